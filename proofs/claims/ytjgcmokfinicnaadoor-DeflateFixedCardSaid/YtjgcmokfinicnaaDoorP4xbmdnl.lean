/- Printed by a program of mine: each Go function answers what its model answers; conditions: what each theorem asks of memory. -/
import Derived.Test.YtjgcmokfinicnaaDoorP3xmpmif
set_option linter.unusedVariables false
set_option linter.unusedSimpArgs false
set_option maxRecDepth 100000
namespace Go.TrydS
open Go Go.Sl Go.Mo Go.Proofs
attribute [local irreducible] Res.wp
theorem match_finder_at_c {H : Imm} {F : List Frag} {w : World} {R : Ending → World → Prop} {kr : Unit → Prop} {kp : Value → Prop} (hG : Gl H) (K : Nat) (f_5865 : T_match_finder) (i5872 : Int) (b5866 : Nat) (f5867 : Frag) (b5869 : Nat) (f5870 : Frag) (hB5868 : Blk f5867 b5866 ([str f_5865.text_, .map (some b5869)]) 90) (hM5871 : MapF (kvA .u8) (okA 3) 3 (ci .i64) 1 b5869 f_5865.seen_ f5870)
    (hS : St w H [f5867, f5870] F) (hm : (match_finder_at.m K f_5865 i5872).wp kr kp)
    (hret : ∀ (w : World), kr () → St w H [f5867, f5870] F → R (.returned (.agg ⟨([((rd f_5865.text_ i5872).toNat : Int), ((rd f_5865.text_ (w64 (i5872 + (1 : Int)))).toNat : Int), ((rd f_5865.text_ (w64 (i5872 + (2 : Int)))).toNat : Int)] : List Int).flatMap (ci .u8)⟩)) w) :
    Calls Tryd.prog 66 ⟨[ptr b5866 0, .int .i64 i5872]⟩ w R := by
 refine enter Tryd.func66 rfl Tryd.ntmps66 rfl hS fun a w hS => ?_
 have hM := hm; clear hm
 rw [match_finder_at.m] at hM
 refine wp_seq <| wp_region_list <| alc ((List.replicate 3 (0 : Int)).flatMap (ci .u8)) hS Tryd.zeroValue126 rfl rfl fun w b5873 f5874 hB5875 hS => wpList_nil <| then_n <| wp_seq ?_
 obtain ⟨hk5877, hM⟩ := wp_chk hM
 obtain ⟨hk5879, hM⟩ := wp_chk hM
 obtain ⟨hk5881, hM⟩ := wp_chk hM
 refine draw_begin (vals := [some (ptr b5866 0), some (ptr b5866 0), some (ptr b5866 0), some (str f_5865.text_), some (.int .i64 i5872), some (.int .u8 ((rd f_5865.text_ i5872).toNat : Int)), some (ptr b5866 0), some (ptr b5866 0), some (ptr b5866 0), some (str f_5865.text_), some (.int .i64 i5872), some (.int .i64 (w64 (i5872 + (1 : Int)))), some (.int .u8 ((rd f_5865.text_ (w64 (i5872 + (1 : Int)))).toNat : Int)), some (ptr b5866 0), some (ptr b5866 0), some (ptr b5866 0), some (str f_5865.text_), some (.int .i64 i5872), some (.int .i64 (w64 (i5872 + (2 : Int)))), some (.int .u8 ((rd f_5865.text_ (w64 (i5872 + (2 : Int)))).toNat : Int)), some (.agg ⟨([((rd f_5865.text_ i5872).toNat : Int), ((rd f_5865.text_ (w64 (i5872 + (1 : Int)))).toNat : Int), ((rd f_5865.text_ (w64 (i5872 + (2 : Int)))).toNat : Int)] : List Int).flatMap (ci .u8)⟩), none]) hS mixed rfl ?_
 intro l w ho hcl hA hst
 refine phq hA hst ho hcl navail nmust 21 [0, 1, 2, 3, 4, 5, 6, 7, 8, 9, 10, 11, 12, 13, 14, 15, 16, 17, 18, 19, 20] rfl rfl rfl rfl rfl (by exact ⟨nR rfl rfl rfl rfl rfl (by exact ovE (mv rfl) rfl), nR rfl rfl rfl rfl rfl (by exact ovE (nck rfl) rfl), nR rfl rfl rfl rfl rfl (by exact ovE (fad rfl Tryd.runUnderlying90 rfl Tryd.sizeOf9 rfl) rfl), nR rfl rfl rfl rfl rfl (by exact ovE (ldb 1 rfl hB5868 rfl rfl Tryd.isAgg9) rfl), nR rfl rfl rfl rfl rfl (by exact ovE (mv rfl) rfl), nR rfl rfl rfl rfl rfl (by exact ovE (ixs rfl rfl Tryd.runUnderlying9 hk5877) rfl), nR rfl rfl rfl rfl rfl (by exact ovE (mv rfl) rfl), nR rfl rfl rfl rfl rfl (by exact ovE (nck rfl) rfl), nR rfl rfl rfl rfl rfl (by exact ovE (fad rfl Tryd.runUnderlying90 rfl Tryd.sizeOf9 rfl) rfl), nR rfl rfl rfl rfl rfl (by exact ovE (ldb 1 rfl hB5868 rfl rfl Tryd.isAgg9) rfl), nR rfl rfl rfl rfl rfl (by exact ovE (mv rfl) rfl), nR rfl rfl rfl rfl rfl (by exact ovE (bin rfl rfl rfl) rfl), nR rfl rfl rfl rfl rfl (by exact ovE (ixs rfl rfl Tryd.runUnderlying9 hk5879) rfl), nR rfl rfl rfl rfl rfl (by exact ovE (mv rfl) rfl), nR rfl rfl rfl rfl rfl (by exact ovE (nck rfl) rfl), nR rfl rfl rfl rfl rfl (by exact ovE (fad rfl Tryd.runUnderlying90 rfl Tryd.sizeOf9 rfl) rfl), nR rfl rfl rfl rfl rfl (by exact ovE (ldb 1 rfl hB5868 rfl rfl Tryd.isAgg9) rfl), nR rfl rfl rfl rfl rfl (by exact ovE (mv rfl) rfl), nR rfl rfl rfl rfl rfl (by exact ovE (bin rfl rfl rfl) rfl), nR rfl rfl rfl rfl rfl (by exact ovE (ixs rfl rfl Tryd.runUnderlying9 hk5881) rfl), nR rfl rfl rfl rfl rfl (by exact ovE (bldAr (([((rd f_5865.text_ i5872).toNat : Int), ((rd f_5865.text_ (w64 (i5872 + (1 : Int)))).toNat : Int), ((rd f_5865.text_ (w64 (i5872 + (2 : Int)))).toNat : Int)] : List Int).flatMap (ci .u8)) Tryd.zeroValue126 Tryd.runUnderlying126 Tryd.sizeOf5 rfl (by kernel_rfl)) rfl), trivial⟩) fun D l a w ho hcl hav hpre hm hE hk hA hst => ?_
 have hS := (Ss.mk hE hst).env2 (e' := [(4, ptr b5873 0), (25, .agg ⟨([((rd f_5865.text_ i5872).toNat : Int), ((rd f_5865.text_ (w64 (i5872 + (1 : Int)))).toNat : Int), ((rd f_5865.text_ (w64 (i5872 + (2 : Int)))).toNat : Int)] : List Int).flatMap (ci .u8)⟩)]) ⟨rfl, rfl, trivial⟩
 refine op_of_nth rfl <| stAr (xs := (List.replicate 3 (0 : Int))) (ys := ([((rd f_5865.text_ i5872).toNat : Int), ((rd f_5865.text_ (w64 (i5872 + (1 : Int)))).toNat : Int), ((rd f_5865.text_ (w64 (i5872 + (2 : Int)))).toNat : Int)] : List Int)) (g := (ci .u8)) (pre := []) (post := []) 0 hS rfl rfl hB5875 rfl (by simp) rfl (flat_ln (g := (ci .u8)) (sz := 1) (fun _ => rfl) (List.length_replicate ..)) (flat_ln (g := (ci .u8)) (sz := 1) (fun _ => rfl) rfl) (one_t5) Tryd.sizeOf126 fun w f5882 hB5883 hS => ?_
 replace hB5883 : Blk f5882 b5873 (([((rd f_5865.text_ i5872).toNat : Int), ((rd f_5865.text_ (w64 (i5872 + (1 : Int)))).toNat : Int), ((rd f_5865.text_ (w64 (i5872 + (2 : Int)))).toNat : Int)] : List Int).flatMap (ci .u8)) 126 := by simpa using hB5883
 refine wpList_nil (then_n ?_)
 replace hst := hS.st
 obtain ⟨hcl, hmust, hav2, hA⟩ := dnN (vals' := [some (ptr b5866 0), some (ptr b5866 0), some (ptr b5866 0), some (str f_5865.text_), some (.int .i64 i5872), some (.int .u8 ((rd f_5865.text_ i5872).toNat : Int)), some (ptr b5866 0), some (ptr b5866 0), some (ptr b5866 0), some (str f_5865.text_), some (.int .i64 i5872), some (.int .i64 (w64 (i5872 + (1 : Int)))), some (.int .u8 ((rd f_5865.text_ (w64 (i5872 + (1 : Int)))).toNat : Int)), some (ptr b5866 0), some (ptr b5866 0), some (ptr b5866 0), some (str f_5865.text_), some (.int .i64 i5872), some (.int .i64 (w64 (i5872 + (2 : Int)))), some (.int .u8 ((rd f_5865.text_ (w64 (i5872 + (2 : Int)))).toNat : Int)), some (.agg ⟨([((rd f_5865.text_ i5872).toNat : Int), ((rd f_5865.text_ (w64 (i5872 + (1 : Int)))).toNat : Int), ((rd f_5865.text_ (w64 (i5872 + (2 : Int)))).toNat : Int)] : List Int).flatMap (ci .u8)⟩), some undef]) 21 [(0, 21), (1, 21), (2, 21), (3, 21), (4, 21), (5, 21), (6, 21), (7, 21), (8, 21), (9, 21), (10, 21), (11, 21), (12, 21), (13, 21), (14, 21), (15, 21), (16, 21), (17, 21), (18, 21), (19, 21), (20, 21)] hA hcl hav hm hpre rfl rfl rfl rfl rfl
 clear hm hav
 refine phqE hA hst ho hcl hmust [] rfl rfl rfl trivial fun a w hS => ?_
 replace hS := hS.env2 (e' := [(4, ptr b5873 0)]) ⟨rfl, trivial⟩
 refine then_n <| wp_ret ?_
 exact s_retC (vs := [.agg ⟨([((rd f_5865.text_ i5872).toNat : Int), ((rd f_5865.text_ (w64 (i5872 + (1 : Int)))).toNat : Int), ((rd f_5865.text_ (w64 (i5872 + (2 : Int)))).toNat : Int)] : List Int).flatMap (ci .u8)⟩]) hS rfl (by exact ⟨rvR 0 rfl hB5883 rfl (flat_ln (g := (ci .u8)) (sz := 1) (fun _ => rfl) rfl) Tryd.isAgg126 Tryd.sizeOf126, trivial⟩) (hret w (wp_ok hM) (hS.st.pick [1, 2] (by kernel_rfl)))

theorem match_finder_long_c {H : Imm} {F : List Frag} {w : World} {R : Ending → World → Prop} {kr : Int → Prop} {kp : Value → Prop} (hG : Gl H) (K : Nat) (f_5895 : T_match_finder) (a_5902 : Int) (b_5903 : Int) (b5896 : Nat) (f5897 : Frag) (b5899 : Nat) (f5900 : Frag) (hB5898 : Blk f5897 b5896 ([str f_5895.text_, .map (some b5899)]) 90) (hM5901 : MapF (kvA .u8) (okA 3) 3 (ci .i64) 1 b5899 f_5895.seen_ f5900)
    (hS : St w H [f5897, f5900] F) (hm : (match_finder_long.m K f_5895 a_5902 b_5903).wp kr kp)
    (hret : ∀ (x5917 : Int) (w : World), kr x5917 → St w H [f5897, f5900] F → R (.returned (.int .i64 x5917)) w) :
    Calls Tryd.prog 67 ⟨[ptr b5896 0, .int .i64 a_5902, .int .i64 b_5903]⟩ w R := by
 refine enter Tryd.func67 rfl Tryd.ntmps67 rfl hS fun a w hS => ?_
 have hM := hm; clear hm
 rw [match_finder_long.m] at hM
 refine wp_seq <| wp_region_list <| st1 hS (asg rfl) rfl fun a w hS => wpList_nil <| then_n <| wp_seq <| wp_region_list <| st1 hS (asg rfl) rfl fun a w hS => wpList_nil <| then_n <| wp_seq <| wp_block <| s_loopJ (fun k5905 a w => ∃ (n_5904 : Int), Ss 43 [] [(0, ptr b5896 0), (1, .int .i64 a_5902), (2, .int .i64 b_5903), (7, .int .i64 n_5904)] H [f5897, f5900] F a w ∧ (match_finder_long.l1 K f_5895 a_5902 b_5903 k5905 n_5904).wp kr kp) K ?_ ?_ ?_
 ·exact ⟨(0 : Int), hS.to [0, 1] (by kernel_rfl) ⟨rfl, rfl, rfl, rfl, trivial⟩, hM⟩
 ·intro a w hI; obtain ⟨_, _, hM⟩ := hI; exact wp_fail hM
 ·intro k5905 a w hI J5916 hJ5916
  obtain ⟨n_5904, hS, hM⟩ := hI
  rw [match_finder_long.l1] at hM
  refine wp_seq <| seq_joinJ (fun a w => ∃ (v5912 : Bool), Ss 43 [] [(0, ptr b5896 0), (1, .int .i64 a_5902), (2, .int .i64 b_5903), (7, .int .i64 n_5904), (39, .bool v5912)] H [f5897, f5900] F a w ∧ (match_finder_long.j2 K (match_finder_long.l1 K f_5895 a_5902 b_5903 k5905) n_5904 v5912).wp kr kp) (fun J5913 hJ5913 => ?_) ?_
  ·refine ifB (b := (decide (n_5904 < (258 : Int)))) hM (fun hb5906 hM => ?_) (fun hb5906 hM => ?_)
   ·refine ifB (b := (decide ((w64 (b_5903 + n_5904)) < (f_5895.text_.length : Int)))) hM (fun hb5907 hM => ?_) (fun hb5907 hM => ?_)
    ·obtain ⟨hk5909, hM⟩ := wp_chk hM
     obtain ⟨hk5911, hM⟩ := wp_chk hM
     refine draw_begin (vals := [some (.int .i64 n_5904), some (.bool true), some (.bool true), some (.int .i64 b_5903), some (.int .i64 n_5904), some (.int .i64 (w64 (b_5903 + n_5904))), some (ptr b5896 0), some (ptr b5896 0), some (ptr b5896 0), some (str f_5895.text_), some (.int .i64 (f_5895.text_.length : Int)), some (.bool true), some (.bool true), some (.bool true), some (ptr b5896 0), some (ptr b5896 0), some (ptr b5896 0), some (str f_5895.text_), some (.int .i64 a_5902), some (.int .i64 n_5904), some (.int .i64 (w64 (a_5902 + n_5904))), some (.int .u8 ((rd f_5895.text_ (w64 (a_5902 + n_5904))).toNat : Int)), some (ptr b5896 0), some (ptr b5896 0), some (ptr b5896 0), some (str f_5895.text_), some (.int .i64 b_5903), some (.int .i64 n_5904), some (.int .i64 (w64 (b_5903 + n_5904))), some (.int .u8 ((rd f_5895.text_ (w64 (b_5903 + n_5904))).toNat : Int)), some (.bool (((rd f_5895.text_ (w64 (a_5902 + n_5904))).toNat : Int) == ((rd f_5895.text_ (w64 (b_5903 + n_5904))).toNat : Int))), some (.bool (((rd f_5895.text_ (w64 (a_5902 + n_5904))).toNat : Int) == ((rd f_5895.text_ (w64 (b_5903 + n_5904))).toNat : Int)))]) hS mixed rfl ?_
     intro l w ho hcl hA hst
     refine phqE hA hst ho hcl nmust [0, 1, 2, 3, 4, 5, 6, 7, 8, 9, 10, 11, 12, 13, 14, 15, 16, 17, 18, 19, 20, 21, 22, 23, 24, 25, 26, 27, 28, 29, 30, 31] rfl rfl rfl (by exact ⟨nR rfl rfl rfl rfl rfl (by exact ovE (mv rfl) rfl), nR rfl rfl rfl rfl rfl (by exact ovE (bin rfl rfl rfl) (congrArg Value.bool hb5906)), nR rfl rfl rfl rfl rfl (by exact ovE (mv rfl) rfl), nW rfl rfl rfl rfl rfl rfl rfl rfl (by exact ovE (mv rfl) rfl), nW rfl rfl rfl rfl rfl rfl rfl rfl (by exact ovE (mv rfl) rfl), nW rfl rfl rfl rfl rfl rfl rfl rfl (by exact ovE (bin rfl rfl rfl) rfl), nW rfl rfl rfl rfl rfl rfl rfl rfl (by exact ovE (mv rfl) rfl), nW rfl rfl rfl rfl rfl rfl rfl rfl (by exact ovE (nck rfl) rfl), nW rfl rfl rfl rfl rfl rfl rfl rfl (by exact ovE (fad rfl Tryd.runUnderlying90 rfl Tryd.sizeOf9 rfl) rfl), nW rfl rfl rfl rfl rfl rfl rfl rfl (by exact ovE (ldb 0 rfl hB5898 rfl rfl Tryd.isAgg9) rfl), nW rfl rfl rfl rfl rfl rfl rfl rfl (by exact ovE (lenS rfl Tryd.runUnderlying9) rfl), nW rfl rfl rfl rfl rfl rfl rfl rfl (by exact ovE (bin rfl rfl rfl) (congrArg Value.bool hb5907)), nR rfl rfl rfl rfl rfl (by exact ovE (pk rfl rfl rfl) rfl), nR rfl rfl rfl rfl rfl (by exact ovE (mv rfl) rfl), nW rfl rfl rfl rfl rfl rfl rfl rfl (by exact ovE (mv rfl) rfl), nW rfl rfl rfl rfl rfl rfl rfl rfl (by exact ovE (nck rfl) rfl), nW rfl rfl rfl rfl rfl rfl rfl rfl (by exact ovE (fad rfl Tryd.runUnderlying90 rfl Tryd.sizeOf9 rfl) rfl), nW rfl rfl rfl rfl rfl rfl rfl rfl (by exact ovE (ldb 0 rfl hB5898 rfl rfl Tryd.isAgg9) rfl), nW rfl rfl rfl rfl rfl rfl rfl rfl (by exact ovE (mv rfl) rfl), nW rfl rfl rfl rfl rfl rfl rfl rfl (by exact ovE (mv rfl) rfl), nW rfl rfl rfl rfl rfl rfl rfl rfl (by exact ovE (bin rfl rfl rfl) rfl), nW rfl rfl rfl rfl rfl rfl rfl rfl (by exact ovE (ixs rfl rfl Tryd.runUnderlying9 hk5909) rfl), nW rfl rfl rfl rfl rfl rfl rfl rfl (by exact ovE (mv rfl) rfl), nW rfl rfl rfl rfl rfl rfl rfl rfl (by exact ovE (nck rfl) rfl), nW rfl rfl rfl rfl rfl rfl rfl rfl (by exact ovE (fad rfl Tryd.runUnderlying90 rfl Tryd.sizeOf9 rfl) rfl), nW rfl rfl rfl rfl rfl rfl rfl rfl (by exact ovE (ldb 0 rfl hB5898 rfl rfl Tryd.isAgg9) rfl), nW rfl rfl rfl rfl rfl rfl rfl rfl (by exact ovE (mv rfl) rfl), nW rfl rfl rfl rfl rfl rfl rfl rfl (by exact ovE (mv rfl) rfl), nW rfl rfl rfl rfl rfl rfl rfl rfl (by exact ovE (bin rfl rfl rfl) rfl), nW rfl rfl rfl rfl rfl rfl rfl rfl (by exact ovE (ixs rfl rfl Tryd.runUnderlying9 hk5911) rfl), nW rfl rfl rfl rfl rfl rfl rfl rfl (by exact ovE (bin rfl rfl rfl) rfl), nR rfl rfl rfl rfl rfl (by exact ovE (pk rfl rfl rfl) rfl), trivial⟩) fun a w hS => ?_
     replace hS := hS.env2 (e' := [(0, ptr b5896 0), (1, .int .i64 a_5902), (2, .int .i64 b_5903), (7, .int .i64 n_5904), (39, .bool (((rd f_5895.text_ (w64 (a_5902 + n_5904))).toNat : Int) == ((rd f_5895.text_ (w64 (b_5903 + n_5904))).toNat : Int)))]) ⟨rfl, rfl, rfl, rfl, rfl, trivial⟩
     refine then_n ?_
     exact hJ5913 _ _ ⟨(((rd f_5895.text_ (w64 (a_5902 + n_5904))).toNat : Int) == ((rd f_5895.text_ (w64 (b_5903 + n_5904))).toNat : Int)), hS.to [0, 1] (by kernel_rfl) ⟨rfl, rfl, rfl, rfl, rfl, trivial⟩, hM⟩
    ·refine draw_begin (vals := [some (.int .i64 n_5904), some (.bool true), some (.bool true), some (.int .i64 b_5903), some (.int .i64 n_5904), some (.int .i64 (w64 (b_5903 + n_5904))), some (ptr b5896 0), some (ptr b5896 0), some (ptr b5896 0), some (str f_5895.text_), some (.int .i64 (f_5895.text_.length : Int)), some (.bool false), some (.bool false), some (.bool false), some (undef), some (undef), some (undef), some (undef), some (undef), some (undef), some (undef), some (undef), some (undef), some (undef), some (undef), some (undef), some (undef), some (undef), some (undef), some (undef), some (undef), some (.bool false)]) hS mixed rfl ?_
     intro l w ho hcl hA hst
     refine phqE hA hst ho hcl nmust [0, 1, 2, 3, 4, 5, 6, 7, 8, 9, 10, 11, 12, 13, 14, 15, 16, 17, 18, 19, 20, 21, 22, 23, 24, 25, 26, 27, 28, 29, 30, 31] rfl rfl rfl (by exact ⟨nR rfl rfl rfl rfl rfl (by exact ovE (mv rfl) rfl), nR rfl rfl rfl rfl rfl (by exact ovE (bin rfl rfl rfl) (congrArg Value.bool hb5906)), nR rfl rfl rfl rfl rfl (by exact ovE (mv rfl) rfl), nW rfl rfl rfl rfl rfl rfl rfl rfl (by exact ovE (mv rfl) rfl), nW rfl rfl rfl rfl rfl rfl rfl rfl (by exact ovE (mv rfl) rfl), nW rfl rfl rfl rfl rfl rfl rfl rfl (by exact ovE (bin rfl rfl rfl) rfl), nW rfl rfl rfl rfl rfl rfl rfl rfl (by exact ovE (mv rfl) rfl), nW rfl rfl rfl rfl rfl rfl rfl rfl (by exact ovE (nck rfl) rfl), nW rfl rfl rfl rfl rfl rfl rfl rfl (by exact ovE (fad rfl Tryd.runUnderlying90 rfl Tryd.sizeOf9 rfl) rfl), nW rfl rfl rfl rfl rfl rfl rfl rfl (by exact ovE (ldb 0 rfl hB5898 rfl rfl Tryd.isAgg9) rfl), nW rfl rfl rfl rfl rfl rfl rfl rfl (by exact ovE (lenS rfl Tryd.runUnderlying9) rfl), nW rfl rfl rfl rfl rfl rfl rfl rfl (by exact ovE (bin rfl rfl rfl) (congrArg Value.bool hb5907)), nR rfl rfl rfl rfl rfl (by exact ovE (pk rfl rfl rfl) rfl), nR rfl rfl rfl rfl rfl (by exact ovE (mv rfl) rfl), nS rfl rfl rfl rfl rfl rfl rfl rfl rfl, nS rfl rfl rfl rfl rfl rfl rfl rfl rfl, nS rfl rfl rfl rfl rfl rfl rfl rfl rfl, nS rfl rfl rfl rfl rfl rfl rfl rfl rfl, nS rfl rfl rfl rfl rfl rfl rfl rfl rfl, nS rfl rfl rfl rfl rfl rfl rfl rfl rfl, nS rfl rfl rfl rfl rfl rfl rfl rfl rfl, nS rfl rfl rfl rfl rfl rfl rfl rfl rfl, nS rfl rfl rfl rfl rfl rfl rfl rfl rfl, nS rfl rfl rfl rfl rfl rfl rfl rfl rfl, nS rfl rfl rfl rfl rfl rfl rfl rfl rfl, nS rfl rfl rfl rfl rfl rfl rfl rfl rfl, nS rfl rfl rfl rfl rfl rfl rfl rfl rfl, nS rfl rfl rfl rfl rfl rfl rfl rfl rfl, nS rfl rfl rfl rfl rfl rfl rfl rfl rfl, nS rfl rfl rfl rfl rfl rfl rfl rfl rfl, nS rfl rfl rfl rfl rfl rfl rfl rfl rfl, nR rfl rfl rfl rfl rfl (by exact ovE (pk rfl rfl rfl) rfl), trivial⟩) fun a w hS => ?_
     replace hS := hS.env2 (e' := [(0, ptr b5896 0), (1, .int .i64 a_5902), (2, .int .i64 b_5903), (7, .int .i64 n_5904), (39, .bool false)]) ⟨rfl, rfl, rfl, rfl, rfl, trivial⟩
     refine then_n ?_
     exact hJ5913 _ _ ⟨false, hS.to [0, 1] (by kernel_rfl) ⟨rfl, rfl, rfl, rfl, rfl, trivial⟩, hM⟩
   ·refine draw_begin (vals := [some (.int .i64 n_5904), some (.bool false), some (.bool false), some (undef), some (undef), some (undef), some (undef), some (undef), some (undef), some (undef), some (undef), some (undef), some (.bool false), some (.bool false), some (undef), some (undef), some (undef), some (undef), some (undef), some (undef), some (undef), some (undef), some (undef), some (undef), some (undef), some (undef), some (undef), some (undef), some (undef), some (undef), some (undef), some (.bool false)]) hS mixed rfl ?_
    intro l w ho hcl hA hst
    refine phqE hA hst ho hcl nmust [0, 1, 2, 3, 4, 5, 6, 7, 8, 9, 10, 11, 12, 13, 14, 15, 16, 17, 18, 19, 20, 21, 22, 23, 24, 25, 26, 27, 28, 29, 30, 31] rfl rfl rfl (by exact ⟨nR rfl rfl rfl rfl rfl (by exact ovE (mv rfl) rfl), nR rfl rfl rfl rfl rfl (by exact ovE (bin rfl rfl rfl) (congrArg Value.bool hb5906)), nR rfl rfl rfl rfl rfl (by exact ovE (mv rfl) rfl), nS rfl rfl rfl rfl rfl rfl rfl rfl rfl, nS rfl rfl rfl rfl rfl rfl rfl rfl rfl, nS rfl rfl rfl rfl rfl rfl rfl rfl rfl, nS rfl rfl rfl rfl rfl rfl rfl rfl rfl, nS rfl rfl rfl rfl rfl rfl rfl rfl rfl, nS rfl rfl rfl rfl rfl rfl rfl rfl rfl, nS rfl rfl rfl rfl rfl rfl rfl rfl rfl, nS rfl rfl rfl rfl rfl rfl rfl rfl rfl, nS rfl rfl rfl rfl rfl rfl rfl rfl rfl, nR rfl rfl rfl rfl rfl (by exact ovE (pk rfl rfl rfl) rfl), nR rfl rfl rfl rfl rfl (by exact ovE (mv rfl) rfl), nS rfl rfl rfl rfl rfl rfl rfl rfl rfl, nS rfl rfl rfl rfl rfl rfl rfl rfl rfl, nS rfl rfl rfl rfl rfl rfl rfl rfl rfl, nS rfl rfl rfl rfl rfl rfl rfl rfl rfl, nS rfl rfl rfl rfl rfl rfl rfl rfl rfl, nS rfl rfl rfl rfl rfl rfl rfl rfl rfl, nS rfl rfl rfl rfl rfl rfl rfl rfl rfl, nS rfl rfl rfl rfl rfl rfl rfl rfl rfl, nS rfl rfl rfl rfl rfl rfl rfl rfl rfl, nS rfl rfl rfl rfl rfl rfl rfl rfl rfl, nS rfl rfl rfl rfl rfl rfl rfl rfl rfl, nS rfl rfl rfl rfl rfl rfl rfl rfl rfl, nS rfl rfl rfl rfl rfl rfl rfl rfl rfl, nS rfl rfl rfl rfl rfl rfl rfl rfl rfl, nS rfl rfl rfl rfl rfl rfl rfl rfl rfl, nS rfl rfl rfl rfl rfl rfl rfl rfl rfl, nS rfl rfl rfl rfl rfl rfl rfl rfl rfl, nR rfl rfl rfl rfl rfl (by exact ovE (pk rfl rfl rfl) rfl), trivial⟩) fun a w hS => ?_
    replace hS := hS.env2 (e' := [(0, ptr b5896 0), (1, .int .i64 a_5902), (2, .int .i64 b_5903), (7, .int .i64 n_5904), (39, .bool false)]) ⟨rfl, rfl, rfl, rfl, rfl, trivial⟩
    refine then_n ?_
    exact hJ5913 _ _ ⟨false, hS.to [0, 1] (by kernel_rfl) ⟨rfl, rfl, rfl, rfl, rfl, trivial⟩, hM⟩
  ·intro a w hI
   obtain ⟨v5912, hS, hM⟩ := hI
   rw [match_finder_long.j2] at hM
   refine s_cond hS rfl hM (fun hb5914 hM => ?_) (fun hb5914 hM => ?_)
   ·refine wp_skip ?_
    refine then_n <| wp_block <| wp_region_list <| st1 hS (mv rfl) rfl fun a w hS => st1 hS (bin rfl rfl rfl) rfl fun a w hS => st1x (v := Value.int .i64) (x0 := (w64 (n_5904 + (1 : Int)))) hS (asg rfl) rfl fun n_5915 a w hz hS => ?_
    have hM := lt_to hz hM; clear hz
    refine wpList_nil <| blk_n (then_n ?_)
    exact hJ5916 _ _ ⟨n_5915, hS.to [0, 1] (by kernel_rfl) ⟨rfl, rfl, rfl, rfl, trivial⟩, hM⟩
   ·refine wp_exit ?_
    refine then_ex (then_ex (blk_same (then_n ?_)))
    refine wp_seq <| wp_region_list <| st1 hS (mv rfl) rfl fun a w hS => st1 hS (asg rfl) rfl fun a w hS => wpList_nil <| then_n <| wp_ret ?_
    exact s_ret (rs := [6]) hS rfl rfl (hret n_5904 w (wp_ok hM) (hS.st.pick [0, 1] (by kernel_rfl)))

theorem match_finder_best_c {H : Imm} {F : List Frag} {w : World} {R : Ending → World → Prop} {kr : (Int × Int) → Prop} {kp : Value → Prop} (hG : Gl H) (K : Nat) (f_5848 : T_match_finder) (i5855 : Int) (b5849 : Nat) (f5850 : Frag) (b5852 : Nat) (f5853 : Frag) (hB5851 : Blk f5850 b5849 ([str f_5848.text_, .map (some b5852)]) 90) (hM5854 : MapF (kvA .u8) (okA 3) 3 (ci .i64) 1 b5852 f_5848.seen_ f5853)
    (hS : St w H [f5850, f5853] F) (hm : (match_finder_best.m K f_5848 i5855).wp kr kp)
    (hret : ∀ (len5953 : Int) (dist5954 : Int) (w : World), kr (len5953, dist5954) → St w H [f5850, f5853] F → R (.returned (.agg ⟨[.int .u8 (0 : Int), .int .i64 len5953, .int .i64 dist5954]⟩)) w) :
    Calls Tryd.prog 43 ⟨[ptr b5849 0, .int .i64 i5855]⟩ w R := by
 refine enter Tryd.func43 rfl Tryd.ntmps43 rfl hS fun a w hS => ?_
 have hM := hm; clear hm
 rw [match_finder_best.m] at hM
 refine wp_seq <| wp_region_list <| alc ([.int .u8 (0 : Int), .int .i64 (0 : Int), .int .i64 (0 : Int)]) hS Tryd.zeroValue32 rfl rfl fun w b5856 f5857 hB5858 hS => wpList_nil <| then_n <| wp_seq <| wp_region_list <| alc ([.int .u8 (0 : Int), .int .i64 (0 : Int), .int .i64 (0 : Int)]) hS Tryd.zeroValue32 rfl rfl fun w b5859 f5860 hB5861 hS => wpList_nil <| then_n <| wp_seq <| wp_seq <| wp_region_list <| st1 hS (mv rfl) rfl fun a w hS => st1 hS (bin rfl rfl rfl) rfl fun a w hS => st1 hS (mv rfl) rfl fun a w hS => st1 hS (nck rfl) rfl fun a w hS => st1 hS (fad rfl Tryd.runUnderlying90 rfl Tryd.sizeOf9 rfl) rfl fun a w hS => st1 hS (ldb 2 rfl hB5851 rfl rfl Tryd.isAgg9) rfl fun a w hS => st1 hS (lenS rfl Tryd.runUnderlying9) rfl fun a w hS => st1 hS (bin rfl rfl rfl) rfl fun a w hS => wpList_nil <| then_n <| s_cond hS rfl hM (fun hb5862 hM => ?_) (fun hb5862 hM => ?_)
 ·refine wp_seq ?_
  refine wp_region_list <| st1 hS (ldbA 0 rfl hB5861 rfl ([.int .u8 (0 : Int), .int .i64 (0 : Int), .int .i64 (0 : Int)]) rfl rfl Tryd.isAgg32 Tryd.sizeOf32) rfl fun a w hS => stB 1 ([.int .u8 (0 : Int), .int .i64 (0 : Int), .int .i64 (0 : Int)]) ([.int .u8 (0 : Int), .int .i64 (0 : Int), .int .i64 (0 : Int)]) hS rfl rfl hB5858 rfl rfl Tryd.sizeOf32 (by simp [Value.oneCell']) (Nat.le_of_ble_eq_true rfl) rfl fun w f5863 hB5864 hS => wpList_nil <| then_n <| wp_ret <| then_ret ?_
  exact s_retC (vs := [.agg ⟨[.int .u8 (0 : Int), .int .i64 (0 : Int), .int .i64 (0 : Int)]⟩]) hS rfl (by exact ⟨rvA 1 ([.int .u8 (0 : Int), .int .i64 (0 : Int), .int .i64 (0 : Int)]) rfl hB5864 rfl rfl rfl Tryd.isAgg32 Tryd.sizeOf32, trivial⟩) (hret (0 : Int) (0 : Int) w (wp_ok hM) (hS.st.pick [2, 3] (by kernel_rfl)))
 ·refine wp_skip ?_
  refine then_n <| wp_seq <| draw_begin (vals := [some (ptr b5849 0), some (ptr b5849 0), some (ptr b5849 1), some (.map (some b5852)), some (ptr b5849 0), some (.int .i64 i5855), none, none, none]) hS mixed rfl ?_
  intro l w ho hcl hA hst
  refine phq hA hst ho hcl navail nmust 6 [0, 1, 2, 3, 4, 5] rfl rfl rfl rfl rfl (by exact ⟨nR rfl rfl rfl rfl rfl (by exact ovE (mv rfl) rfl), nR rfl rfl rfl rfl rfl (by exact ovE (nck rfl) rfl), nR rfl rfl rfl rfl rfl (by exact ovE (fad rfl Tryd.runUnderlying90 rfl Tryd.sizeOf88 rfl) rfl), nR rfl rfl rfl rfl rfl (by exact ovE (ldb 2 rfl hB5851 rfl rfl Tryd.isAgg88) rfl), nR rfl rfl rfl rfl rfl (by exact ovE (mv rfl) rfl), nR rfl rfl rfl rfl rfl (by exact ovE (mv rfl) rfl), trivial⟩) fun D l a w ho hcl hav hpre hm hE hk hA hst => ?_
  have hS := (Ss.mk hE hst).env2 (e' := [(23, ptr b5849 0), (24, .int .i64 i5855)]) ⟨rfl, rfl, trivial⟩
  refine op_of_nth rfl <| s_call hS rfl Tryd.call66 (match_finder_at_c hG K f_5848 i5855 b5849 f5850 b5852 f5853 hB5851 hM5854 (hS.st.part 2 [2, 3, 0, 1] (by kernel_rfl)) (wp_bind hM) (fun  w hM  hst => s_back hS.ev hst.appF rfl fun hS => ?_))
  replace hS : Ss _ _ _ H [f5850, f5853, f5860, f5857] F _ _ := hS
  refine wpList_nil (then_n ?_)
  replace hst := hS.st
  obtain ⟨hcl, hmust, hav2, hA⟩ := dn (vals' := [some (ptr b5849 0), some (ptr b5849 0), some (ptr b5849 1), some (.map (some b5852)), some (ptr b5849 0), some (.int .i64 i5855), some (.agg ⟨([((rd f_5848.text_ i5855).toNat : Int), ((rd f_5848.text_ (w64 (i5855 + (1 : Int)))).toNat : Int), ((rd f_5848.text_ (w64 (i5855 + (2 : Int)))).toNat : Int)] : List Int).flatMap (ci .u8)⟩), none, none]) 6 [(4, 6), (5, 6)] hA hcl hav hm hpre hk rfl rfl rfl rfl rfl rfl rfl
  clear hm hav
  refine phq hA hst ho hcl hav2 hmust 7 [0, 1, 2, 3] rfl rfl rfl rfl rfl (by exact ⟨nR rfl rfl rfl rfl rfl (by exact ovE (mv rfl) rfl), nR rfl rfl rfl rfl rfl (by exact ovE (nck rfl) rfl), nR rfl rfl rfl rfl rfl (by exact ovE (fad rfl Tryd.runUnderlying90 rfl Tryd.sizeOf88 rfl) rfl), nR rfl rfl rfl rfl rfl (by exact ovE (ldb 0 rfl hB5851 rfl rfl Tryd.isAgg88) rfl), trivial⟩) fun D l a w ho hcl hav hpre hm hE hk hA hst => ?_
  have hS := (Ss.mk hE hst).env2 (e' := [(22, .map (some b5852)), (25, .agg ⟨([((rd f_5848.text_ i5855).toNat : Int), ((rd f_5848.text_ (w64 (i5855 + (1 : Int)))).toNat : Int), ((rd f_5848.text_ (w64 (i5855 + (2 : Int)))).toNat : Int)] : List Int).flatMap (ci .u8)⟩)]) ⟨rfl, rfl, trivial⟩
  refine op_of_nth rfl <| lkM (kv := kvA .u8) (ok := okA 3) (E := 3) (g := (ci .i64)) (sz := 1) (q := ([((rd f_5848.text_ i5855).toNat : Int), ((rd f_5848.text_ (w64 (i5855 + (1 : Int)))).toNat : Int), ((rd f_5848.text_ (w64 (i5855 + (2 : Int)))).toNat : Int)] : List Int)) 1 hS rfl rfl rfl rfl hM5854 rfl (keyArr Tryd.runUnderlying126 Tryd.runUnderlying5 Tryd.sizeOf5 Tryd.isAgg5) Tryd.runUnderlying88 Tryd.zeroValue45 (fun _ => rfl) rfl rfl fun zs5884 A5885 c5886 w hz hp5888 hc5887 hS => ?_
  have hM := lt_to hz hM; clear hz
  refine wpList_nil (then_n ?_)
  replace hst := hS.st
  obtain ⟨hcl, hmust, hav2, hA⟩ := dn (vals' := [some (ptr b5849 0), some (ptr b5849 0), some (ptr b5849 1), some (.map (some b5852)), some (ptr b5849 0), some (.int .i64 i5855), some (.agg ⟨([((rd f_5848.text_ i5855).toNat : Int), ((rd f_5848.text_ (w64 (i5855 + (1 : Int)))).toNat : Int), ((rd f_5848.text_ (w64 (i5855 + (2 : Int)))).toNat : Int)] : List Int).flatMap (ci .u8)⟩), some (.slice A5885 zs5884.length c5886), some (.slice A5885 zs5884.length c5886)]) 7 [(3, 7), (6, 7), (2, 3), (4, 6), (5, 6), (1, 2), (0, 1)] hA hcl hav hm hpre hk rfl rfl rfl rfl rfl rfl rfl
  clear hm hav
  refine phqE hA hst ho hcl hmust [8] rfl rfl rfl (by exact ⟨nR rfl rfl rfl rfl rfl (by exact ovE (asg rfl) rfl), trivial⟩) fun a w hS => ?_
  replace hS := hS.env2 (e' := [(0, ptr b5849 0), (1, .int .i64 i5855), (4, ptr b5856 0), (5, ptr b5859 0), (6, .slice A5885 zs5884.length c5886)]) ⟨rfl, rfl, rfl, rfl, rfl, trivial⟩
  refine then_n <| seq_joinJ (fun a w => ∃ (len5946 : Int) (dist5947 : Int) (f5948 : Frag), Ss 63 [] [(4, ptr b5856 0), (5, ptr b5859 0)] H [f5850, f5853, f5857, f5948] F a w ∧ (Blk f5948 b5859 ([.int .u8 (0 : Int), .int .i64 len5946, .int .i64 dist5947]) 32) ∧ (match_finder_best.j2 K len5946 dist5947).wp kr kp) (fun J5950 hJ5950 => ?_) ?_
  ·refine wp_seq ?_
   refine wp_region_list <| st1 hS (asg rfl) rfl fun a w hS => wpList_nil <| then_n <| wp_block <| s_loopJ (fun k5934 a w => ∃ (len5929 : Int) (dist5930 : Int) (f5931 : Frag) (tries5933 : Int), Ss 63 [] [(0, ptr b5849 0), (1, .int .i64 i5855), (4, ptr b5856 0), (5, ptr b5859 0), (6, .slice A5885 zs5884.length c5886), (7, .int .i64 tries5933)] H [f5850, f5853, f5857, f5931] F a w ∧ (Blk f5931 b5859 ([.int .u8 (0 : Int), .int .i64 len5929, .int .i64 dist5930]) 32) ∧ (match_finder_best.l1 K f_5848 i5855 zs5884 k5934 len5929 dist5930 tries5933).wp kr kp) K ?_ ?_ ?_
   ·exact ⟨(0 : Int), (0 : Int), f5860, (0 : Int), hS.to [0, 1, 3, 2] (by kernel_rfl) ⟨rfl, rfl, rfl, rfl, rfl, rfl, trivial⟩, hB5861, hM⟩
   ·intro a w hI; obtain ⟨_, _, _, _, _, _, hM⟩ := hI; exact wp_fail hM
   ·intro k5934 a w hI J5945 hJ5945
    obtain ⟨len5929, dist5930, f5931, tries5933, hS, hB5932, hM⟩ := hI
    rw [match_finder_best.l1] at hM
    refine wp_seq <| wp_seq <| wp_region_list <| st1 hS (mv rfl) rfl fun a w hS => st1 hS (bin rfl rfl rfl) rfl fun a w hS => st1 hS (mv rfl) rfl fun a w hS => g_op 4 true 29 (b := (decide (tries5933 < (32 : Int)))) (r := (decide (tries5933 < (zs5884.length : Int)))) hS rfl rfl rfl rfl rfl rfl rfl (fun hb a w hS K hK => ?_) rfl fun a w hS => ?_
    ·refine st1g hS rfl rfl rfl hb (mv rfl) rfl fun a w hS => ?_
     refine st1g hS rfl rfl rfl hb (mv rfl) rfl fun a w hS => st1g hS rfl rfl rfl hb (lenV rfl Tryd.runUnderlying45) rfl fun a w hS => st1g hS rfl rfl rfl hb (bin rfl rfl rfl) rfl fun a w hS => ?_
     exact wpList_nil (hK _ _ (hS.up 4 rfl rfl))
    refine wpList_nil <| then_n <| s_cond hS rfl hM (fun hb5935 hM => ?_) (fun hb5935 hM => ?_)
    ·refine wp_skip ?_
     refine then_n <| wp_seq <| wp_block <| wp_seq <| wp_region_list <| st1 hS (mv rfl) rfl fun a w hS => st1 hS (mv rfl) rfl fun a w hS => st1 hS (lenV rfl Tryd.runUnderlying45) rfl fun a w hS => st1 hS (bin rfl rfl rfl) rfl fun a w hS => st1 hS (mv rfl) rfl fun a w hS => st1 hS (bin rfl rfl rfl) rfl fun a w hS => ?_
     obtain ⟨hk5936, hM⟩ := wp_chk hM
     refine st1 hS (ixV rfl rfl Tryd.runUnderlying45 Tryd.sizeOf3 (hp5888.rd (i := 1) rfl) (fun _ => rfl) rfl hk5936) rfl fun a w hS => st1 hS (ldV0 rfl (hp5888.rd (i := 1) rfl) (fun _ => rfl) hk5936 rfl Tryd.isAgg3) rfl fun a w hS => st1x (v := Value.int .i64) (x0 := (rd zs5884 (w64 ((w64 ((zs5884.length : Int) - (1 : Int))) - tries5933)))) hS (asg rfl) rfl fun p5937 a w hz hS => ?_
     have hM := lt_to hz hM; clear hz
     refine wpList_nil <| then_n <| wp_seq <| wp_seq <| wp_region_list <| st1 hS (mv rfl) rfl fun a w hS => st1 hS (mv rfl) rfl fun a w hS => st1 hS (bin rfl rfl rfl) rfl fun a w hS => st1 hS (bin rfl rfl rfl) rfl fun a w hS => wpList_nil <| then_n <| s_cond hS rfl hM (fun hb5938 hM => ?_) (fun hb5938 hM => ?_)
     ·refine wp_exit ?_
      refine then_ex (blk_ne rfl (then_ex (then_ex (blk_same (then_n ?_)))))
      exact hJ5950 _ _ ⟨len5929, dist5930, f5931, hS.to [0, 1, 2, 3] (by kernel_rfl) ⟨rfl, rfl, trivial⟩, hB5932, hM⟩
     ·refine wp_skip ?_
      refine then_n <| wp_seq <| wp_region_list <| st1 hS (mv rfl) rfl fun a w hS => st1 hS (mv rfl) rfl fun a w hS => st1 hS (mv rfl) rfl fun a w hS => s_call hS rfl Tryd.call67 (match_finder_long_c hG K f_5848 p5937 i5855 b5849 f5850 b5852 f5853 hB5851 hM5854 (hS.st.part 2 [0, 1, 2, 3] (by kernel_rfl)) (wp_bind hM) (fun x5939 w hM  hst => s_back hS.ev hst.appF rfl fun hS => ?_))
      replace hS : Ss _ _ _ H [f5850, f5853, f5857, f5931] F _ _ := hS
      refine st1 hS (asg rfl) rfl fun a w hS => wpList_nil <| then_n <| wp_seq <| wp_region_list <| st1 hS (mv rfl) rfl fun a w hS => st1 hS (fad rfl Tryd.runUnderlying32 rfl Tryd.sizeOf3 rfl) rfl fun a w hS => st1 hS (ldb 3 rfl hB5932 rfl rfl Tryd.isAgg3) rfl fun a w hS => st1 hS (bin rfl rfl rfl) rfl fun a w hS => wpList_nil <| then_n <| s_cond hS rfl hM (fun hb5940 hM => ?_) (fun hb5940 hM => ?_)
      ·refine wp_region_list ?_
       refine st1 hS (mv rfl) rfl fun a w hS => st1 hS (mv rfl) rfl fun a w hS => st1 hS (mv rfl) rfl fun a w hS => st1 hS (bin rfl rfl rfl) rfl fun a w hS => st1 hS (bld ([.int .u8 (0 : Int), .int .i64 x5939, .int .i64 (w64 (i5855 - p5937))]) [(0, 1), (1, 1), (2, 1)] Tryd.zeroValue32 Tryd.runUnderlying32 (by intro w; simp [Tryd.sizeOf3, Tryd.sizeOf5]) rfl rfl) rfl fun a w hS => stB 3 ([.int .u8 (0 : Int), .int .i64 x5939, .int .i64 (w64 (i5855 - p5937))]) ([.int .u8 (0 : Int), .int .i64 x5939, .int .i64 (w64 (i5855 - p5937))]) hS rfl rfl hB5932 rfl rfl Tryd.sizeOf32 (by simp [Value.oneCell']) (Nat.le_of_ble_eq_true rfl) rfl fun w f5941 hB5942 hS => wpList_nil <| blk_n (then_n ?_)
       refine wp_region_list <| st1 hS (mv rfl) rfl fun a w hS => st1 hS (bin rfl rfl rfl) rfl fun a w hS => st1x (v := Value.int .i64) (x0 := (w64 (tries5933 + (1 : Int)))) hS (asg rfl) rfl fun tries5943 a w hz hS => ?_
       have hM := lt_to hz hM; clear hz
       refine wpList_nil <| then_n ?_
       exact hJ5945 _ _ ⟨x5939, (w64 (i5855 - p5937)), f5941, tries5943, hS.to [0, 1, 2, 3] (by kernel_rfl) ⟨rfl, rfl, rfl, rfl, rfl, rfl, trivial⟩, hB5942, hM⟩
      ·refine wp_skip ?_
       refine blk_n (then_n ?_)
       refine wp_region_list <| st1 hS (mv rfl) rfl fun a w hS => st1 hS (bin rfl rfl rfl) rfl fun a w hS => st1x (v := Value.int .i64) (x0 := (w64 (tries5933 + (1 : Int)))) hS (asg rfl) rfl fun tries5944 a w hz hS => ?_
       have hM := lt_to hz hM; clear hz
       refine wpList_nil <| then_n ?_
       exact hJ5945 _ _ ⟨len5929, dist5930, f5931, tries5944, hS.to [0, 1, 2, 3] (by kernel_rfl) ⟨rfl, rfl, rfl, rfl, rfl, rfl, trivial⟩, hB5932, hM⟩
    ·refine wp_exit ?_
     refine then_ex (then_ex (blk_same (then_n ?_)))
     exact hJ5950 _ _ ⟨len5929, dist5930, f5931, hS.to [0, 1, 2, 3] (by kernel_rfl) ⟨rfl, rfl, trivial⟩, hB5932, hM⟩
  ·intro a w hI
   obtain ⟨len5946, dist5947, f5948, hS, hB5949, hM⟩ := hI
   rw [match_finder_best.j2] at hM
   refine wp_seq <| wp_region_list <| st1 hS (ldbA 3 rfl hB5949 rfl ([.int .u8 (0 : Int), .int .i64 len5946, .int .i64 dist5947]) rfl rfl Tryd.isAgg32 Tryd.sizeOf32) rfl fun a w hS => stB 2 ([.int .u8 (0 : Int), .int .i64 len5946, .int .i64 dist5947]) ([.int .u8 (0 : Int), .int .i64 len5946, .int .i64 dist5947]) hS rfl rfl hB5858 rfl rfl Tryd.sizeOf32 (by simp [Value.oneCell']) (Nat.le_of_ble_eq_true rfl) rfl fun w f5951 hB5952 hS => wpList_nil <| then_n <| wp_ret ?_
   exact s_retC (vs := [.agg ⟨[.int .u8 (0 : Int), .int .i64 len5946, .int .i64 dist5947]⟩]) hS rfl (by exact ⟨rvA 2 ([.int .u8 (0 : Int), .int .i64 len5946, .int .i64 dist5947]) rfl hB5952 rfl rfl rfl Tryd.isAgg32 Tryd.sizeOf32, trivial⟩) (hret len5946 dist5947 w (wp_ok hM) (hS.st.pick [0, 1] (by kernel_rfl)))

theorem match_finder_note_c {H : Imm} {F : List Frag} {w : World} {R : Ending → World → Prop} {kr : (List ((List Int) × (List Int))) → Prop} {kp : Value → Prop} (hG : Gl H) (K : Nat) (f_5986 : T_match_finder) (i5993 : Int) (b5987 : Nat) (f5988 : Frag) (b5990 : Nat) (f5991 : Frag) (hB5989 : Blk f5988 b5987 ([str f_5986.text_, .map (some b5990)]) 90) (hM5992 : MapF (kvA .u8) (okA 3) 3 (ci .i64) 1 b5990 f_5986.seen_ f5991)
    (hS : St w H [f5988, f5991] F) (hm : (match_finder_note.m K f_5986 i5993).wp kr kp)
    (hret : ∀ (seen6023 : (List ((List Int) × (List Int)))) (f6024 : Frag) (w : World), kr seen6023 → (MapF (kvA .u8) (okA 3) 3 (ci .i64) 1 b5990 seen6023 f6024) → St w H [f5988, f6024] F → R (.returned (.tuple ⟨[]⟩)) w) :
    Calls Tryd.prog 44 ⟨[ptr b5987 0, .int .i64 i5993]⟩ w R := by
 refine enter Tryd.func44 rfl Tryd.ntmps44 rfl hS fun a w hS => ?_
 have hM := hm; clear hm
 rw [match_finder_note.m] at hM
 refine wp_seq <| wp_region_list <| st1 hS (mv rfl) rfl fun a w hS => st1 hS (bin rfl rfl rfl) rfl fun a w hS => st1 hS (mv rfl) rfl fun a w hS => st1 hS (nck rfl) rfl fun a w hS => st1 hS (fad rfl Tryd.runUnderlying90 rfl Tryd.sizeOf9 rfl) rfl fun a w hS => st1 hS (ldb 0 rfl hB5989 rfl rfl Tryd.isAgg9) rfl fun a w hS => st1 hS (lenS rfl Tryd.runUnderlying9) rfl fun a w hS => st1 hS (bin rfl rfl rfl) rfl fun a w hS => wpList_nil <| then_n <| s_cond hS rfl hM (fun hb5994 hM => ?_) (fun hb5994 hM => ?_)
 ·refine wp_seq ?_
  refine wp_region_list <| st1 hS (mv rfl) rfl fun a w hS => st1 hS (mv rfl) rfl fun a w hS => s_call hS rfl Tryd.call66 (match_finder_at_c hG K f_5986 i5993 b5987 f5988 b5990 f5991 hB5989 hM5992 (hS.st.part 2 [0, 1] (by kernel_rfl)) (wp_bind hM) (fun  w hM  hst => s_back hS.ev hst.appF rfl fun hS => ?_))
  replace hS : Ss _ _ _ H [f5988, f5991] F _ _ := hS
  refine alc ((List.replicate 3 (0 : Int)).flatMap (ci .u8)) hS Tryd.zeroValue126 rfl rfl fun w b5995 f5996 hB5997 hS => stAr (xs := (List.replicate 3 (0 : Int))) (ys := ([((rd f_5986.text_ i5993).toNat : Int), ((rd f_5986.text_ (w64 (i5993 + (1 : Int)))).toNat : Int), ((rd f_5986.text_ (w64 (i5993 + (2 : Int)))).toNat : Int)] : List Int)) (g := (ci .u8)) (pre := []) (post := []) 0 hS rfl rfl hB5997 rfl (by simp) rfl (flat_ln (g := (ci .u8)) (sz := 1) (fun _ => rfl) (List.length_replicate ..)) (flat_ln (g := (ci .u8)) (sz := 1) (fun _ => rfl) rfl) (one_t5) Tryd.sizeOf126 fun w f5998 hB5999 hS => ?_
  replace hB5999 : Blk f5998 b5995 (([((rd f_5986.text_ i5993).toNat : Int), ((rd f_5986.text_ (w64 (i5993 + (1 : Int)))).toNat : Int), ((rd f_5986.text_ (w64 (i5993 + (2 : Int)))).toNat : Int)] : List Int).flatMap (ci .u8)) 126 := by simpa using hB5999
  refine wpList_nil <| then_n <| draw_begin (vals := [some (ptr b5987 0), some (ptr b5987 0), some (ptr b5987 1), some (.map (some b5990)), some (.agg ⟨([((rd f_5986.text_ i5993).toNat : Int), ((rd f_5986.text_ (w64 (i5993 + (1 : Int)))).toNat : Int), ((rd f_5986.text_ (w64 (i5993 + (2 : Int)))).toNat : Int)] : List Int).flatMap (ci .u8)⟩), some (.int .i64 i5993), none, none, none, none, none, none]) hS mixed rfl ?_
  intro l w ho hcl hA hst
  refine phq hA hst ho hcl navail nmust 6 [0, 1, 2, 3, 4, 5] rfl rfl rfl rfl rfl (by exact ⟨nR rfl rfl rfl rfl rfl (by exact ovE (mv rfl) rfl), nR rfl rfl rfl rfl rfl (by exact ovE (nck rfl) rfl), nR rfl rfl rfl rfl rfl (by exact ovE (fad rfl Tryd.runUnderlying90 rfl Tryd.sizeOf88 rfl) rfl), nR rfl rfl rfl rfl rfl (by exact ovE (ldb 1 rfl hB5989 rfl rfl Tryd.isAgg88) rfl), nR rfl rfl rfl rfl rfl (by exact ovE (ldAr (xs := ([((rd f_5986.text_ i5993).toNat : Int), ((rd f_5986.text_ (w64 (i5993 + (1 : Int)))).toNat : Int), ((rd f_5986.text_ (w64 (i5993 + (2 : Int)))).toNat : Int)] : List Int)) (g := (ci .u8)) (pre := []) (post := []) 0 rfl hB5999 rfl (by simp) rfl (flat_ln (g := (ci .u8)) (sz := 1) (fun _ => rfl) rfl) Tryd.isAgg126 Tryd.sizeOf126) rfl), nR rfl rfl rfl rfl rfl (by exact ovE (mv rfl) rfl), trivial⟩) fun D l a w ho hcl hav hpre hm hE hk hA hst => ?_
  have hS := (Ss.mk hE hst).env2 (e' := [(22, .int .i64 i5993)]) ⟨rfl, trivial⟩
  refine op_of_nth rfl <| bsl (g := (ci .i64)) ([i5993] : List Int) [.int .i64 i5993] hS Tryd.runUnderlying45 Tryd.sizeOf3 X.el3 rfl rfl rfl (by simp [Value.cells]) rfl rfl rfl rfl rfl fun w A6000 c6001 f6002 hV6003 hS => wpList_nil (then_n ?_)
  replace hst := hS.st
  obtain ⟨hcl, hmust, hav2, hA⟩ := dn (vals' := [some (ptr b5987 0), some (ptr b5987 0), some (ptr b5987 1), some (.map (some b5990)), some (.agg ⟨([((rd f_5986.text_ i5993).toNat : Int), ((rd f_5986.text_ (w64 (i5993 + (1 : Int)))).toNat : Int), ((rd f_5986.text_ (w64 (i5993 + (2 : Int)))).toNat : Int)] : List Int).flatMap (ci .u8)⟩), some (.int .i64 i5993), some (.slice A6000 ([i5993] : List Int).length c6001), none, none, none, none, none]) 6 [(5, 6)] hA hcl hav hm hpre hk rfl rfl rfl rfl rfl rfl rfl
  clear hm hav
  refine phq hA hst ho hcl hav2 hmust 7 [0, 1, 2, 3, 4] rfl rfl rfl rfl rfl (by exact ⟨nR rfl rfl rfl rfl rfl (by exact ovE (mv rfl) rfl), nR rfl rfl rfl rfl rfl (by exact ovE (nck rfl) rfl), nR rfl rfl rfl rfl rfl (by exact ovE (fad rfl Tryd.runUnderlying90 rfl Tryd.sizeOf88 rfl) rfl), nR rfl rfl rfl rfl rfl (by exact ovE (ldb 2 rfl hB5989 rfl rfl Tryd.isAgg88) rfl), nR rfl rfl rfl rfl rfl (by exact ovE (ldAr (xs := ([((rd f_5986.text_ i5993).toNat : Int), ((rd f_5986.text_ (w64 (i5993 + (1 : Int)))).toNat : Int), ((rd f_5986.text_ (w64 (i5993 + (2 : Int)))).toNat : Int)] : List Int)) (g := (ci .u8)) (pre := []) (post := []) 1 rfl hB5999 rfl (by simp) rfl (flat_ln (g := (ci .u8)) (sz := 1) (fun _ => rfl) rfl) Tryd.isAgg126 Tryd.sizeOf126) rfl), trivial⟩) fun D l a w ho hcl hav hpre hm hE hk hA hst => ?_
  have hS := (Ss.mk hE hst).env2 (e' := [(19, .map (some b5990)), (20, .agg ⟨([((rd f_5986.text_ i5993).toNat : Int), ((rd f_5986.text_ (w64 (i5993 + (1 : Int)))).toNat : Int), ((rd f_5986.text_ (w64 (i5993 + (2 : Int)))).toNat : Int)] : List Int).flatMap (ci .u8)⟩)]) ⟨rfl, rfl, trivial⟩
  refine op_of_nth rfl ?_
  replace hS := hS.front [3, 0, 1, 2] (by kernel_rfl)
  refine meM (kv := kvA .u8) (ok := okA 3) (E := 3) (g := (ci .i64)) (sz := 1) (q := ([((rd f_5986.text_ i5993).toNat : Int), ((rd f_5986.text_ (w64 (i5993 + (1 : Int)))).toNat : Int), ((rd f_5986.text_ (w64 (i5993 + (2 : Int)))).toNat : Int)] : List Int)) hS rfl rfl rfl rfl hM5992 (keyArr Tryd.runUnderlying126 Tryd.runUnderlying5 Tryd.sizeOf5 Tryd.isAgg5) Tryd.runUnderlying88 Tryd.zeroValue45 rfl fun zs6004 w A6005 c6006 n6009 f6010 f6011 hz hV6012 hH6013 hS => ?_
  have hM := lt_to hz hM; clear hz
  refine wpList_nil (then_n ?_)
  replace hst := hS.st
  obtain ⟨hcl, hmust, hav2, hA⟩ := dn (vals' := [some (ptr b5987 0), some (ptr b5987 0), some (ptr b5987 1), some (.map (some b5990)), some (.agg ⟨([((rd f_5986.text_ i5993).toNat : Int), ((rd f_5986.text_ (w64 (i5993 + (1 : Int)))).toNat : Int), ((rd f_5986.text_ (w64 (i5993 + (2 : Int)))).toNat : Int)] : List Int).flatMap (ci .u8)⟩), some (.int .i64 i5993), some (.slice A6000 ([i5993] : List Int).length c6001), some (.tuple ⟨[.slice A6005 zs6004.length c6006, .int .i64 ((n6009 : Nat) : Int)]⟩), some (.slice A6005 zs6004.length c6006), none, some (.int .i64 ((n6009 : Nat) : Int)), none]) 7 [(0, 7), (1, 7), (2, 7), (3, 7), (4, 7), (5, 7), (6, 7)] hA hcl hav hm hpre hk rfl rfl rfl rfl rfl rfl rfl
  clear hm hav
  refine phq hA hst ho hcl hav2 hmust 9 [8, 10] rfl rfl rfl rfl rfl (by exact ⟨nR rfl rfl rfl rfl rfl (by exact ovE (ex rfl rfl) rfl), nR rfl rfl rfl rfl rfl (by exact ovE (ex rfl rfl) rfl), trivial⟩) fun D l a w ho hcl hav hpre hm hE hk hA hst => ?_
  have hS := (Ss.mk hE hst).env2 (e' := [(21, .slice A6005 zs6004.length c6006), (23, .slice A6000 ([i5993] : List Int).length c6001)]) ⟨rfl, rfl, trivial⟩
  refine op_of_nth rfl ?_
  obtain ⟨hk6014, hM⟩ := wp_chk hM
  refine apV (ys := ([i5993] : List Int)) 0 hS rfl rfl hV6012 rfl (hV6003.rd (i := 2) rfl) Tryd.runUnderlying45 Tryd.runUnderlying45 X.el3 (fun _ => rfl) rfl one_t3 hk6014 rfl fun zs6019 w A6015 c6016 f6017 hz hV6018 hS => ?_
  have hM := lt_to hz hM; clear hz
  refine wpList_nil (then_n ?_)
  replace hst := hS.st
  obtain ⟨hcl, hmust, hav2, hA⟩ := dn (vals' := [some (ptr b5987 0), some (ptr b5987 0), some (ptr b5987 1), some (.map (some b5990)), some (.agg ⟨([((rd f_5986.text_ i5993).toNat : Int), ((rd f_5986.text_ (w64 (i5993 + (1 : Int)))).toNat : Int), ((rd f_5986.text_ (w64 (i5993 + (2 : Int)))).toNat : Int)] : List Int).flatMap (ci .u8)⟩), some (.int .i64 i5993), some (.slice A6000 ([i5993] : List Int).length c6001), some (.tuple ⟨[.slice A6005 zs6004.length c6006, .int .i64 ((n6009 : Nat) : Int)]⟩), some (.slice A6005 zs6004.length c6006), some (.slice A6015 zs6019.length c6016), some (.int .i64 ((n6009 : Nat) : Int)), none]) 9 [(6, 9), (7, 9), (8, 9), (5, 6), (0, 7), (1, 7), (2, 7), (3, 7), (4, 7)] hA hcl hav hm hpre hk rfl rfl rfl rfl rfl rfl rfl
  clear hm hav
  refine phq hA hst ho hcl hav2 hmust 11 [10] rfl rfl rfl rfl rfl (by exact ⟨nR rfl rfl rfl rfl rfl (by exact ovE (ex rfl rfl) rfl), trivial⟩) fun D l a w ho hcl hav hpre hm hE hk hA hst => ?_
  have hS := (Ss.mk hE hst).env2 (e' := [(19, .map (some b5990)), (25, .slice A6015 zs6019.length c6016), (26, .int .i64 ((n6009 : Nat) : Int))]) ⟨rfl, rfl, rfl, trivial⟩
  refine op_of_nth rfl ?_
  replace hS := hS.front [0, 1, 2, 3, 4] (by kernel_rfl)
  refine esM (kv := kvA .u8) (ok := okA 3) (E := 3) (g := (ci .i64)) (sz := 1) hS rfl rfl rfl hV6018 hH6013 fun m6020 w f6021 hz hM6022 hS => ?_
  have hM := lt_to hz hM; clear hz
  refine wpList_nil (then_n ?_)
  replace hst := hS.st
  obtain ⟨hcl, hmust, hav2, hA⟩ := dnN (vals' := [some (ptr b5987 0), some (ptr b5987 0), some (ptr b5987 1), some (.map (some b5990)), some (.agg ⟨([((rd f_5986.text_ i5993).toNat : Int), ((rd f_5986.text_ (w64 (i5993 + (1 : Int)))).toNat : Int), ((rd f_5986.text_ (w64 (i5993 + (2 : Int)))).toNat : Int)] : List Int).flatMap (ci .u8)⟩), some (.int .i64 i5993), some (.slice A6000 ([i5993] : List Int).length c6001), some (.tuple ⟨[.slice A6005 zs6004.length c6006, .int .i64 ((n6009 : Nat) : Int)]⟩), some (.slice A6005 zs6004.length c6006), some (.slice A6015 zs6019.length c6016), some (.int .i64 ((n6009 : Nat) : Int)), some undef]) 11 [(0, 11), (1, 11), (2, 11), (3, 11), (4, 11), (5, 11), (6, 11), (7, 11), (8, 11), (9, 11), (10, 11)] hA hcl hav hm hpre rfl rfl rfl rfl rfl
  clear hm hav
  refine phqE hA hst ho hcl hmust [] rfl rfl rfl trivial fun a w hS => ?_
  replace hS := hS.env2 (e' := []) trivial
  exact s_end (rs := []) hS rfl rfl (hret m6020 f6021 w (wp_ok hM) hM6022 (hS.st.pick [3, 0] (by kernel_rfl)))
 ·refine wp_skip ?_
  exact s_end (rs := []) hS rfl rfl (hret f_5986.seen_ f5991 w (wp_ok hM) hM5992 (hS.st.pick [0, 1] (by kernel_rfl)))

theorem match_Find_c {H : Imm} {F : List Frag} {w : World} {R : Ending → World → Prop} {kr : (List T_api_Token) → Prop} {kp : Value → Prop} (hG : Gl H) (K : Nat) (s5834 : List UInt8)
    (hS : St w H [] F) (hm : (match_Find.m K s5834).wp kr kp)
    (hret : ∀ (A6120 : Option Addr) (c6121 : Nat) (x6122 : (List T_api_Token)) (f6123 : Frag) (w : World), kr x6122 → (Vec 32 T_api_Token.cells 3 A6120 x6122 c6121 f6123) → St w H [f6123] F → R (.returned (.slice A6120 x6122.length c6121)) w) :
    Calls Tryd.prog 19 ⟨[str s5834]⟩ w R := by
 refine enter Tryd.func19 rfl Tryd.ntmps19 rfl hS fun a w hS => ?_
 have hM := hm; clear hm
 rw [match_Find.m] at hM
 refine wp_seq <| wp_region_list <| st1 hS (asg rfl) rfl fun a w hS => ?_
 obtain ⟨f5835, hV5836, hS⟩ := hS.nilV 32 T_api_Token.cells 3
 refine wpList_nil <| then_n <| wp_seq <| wp_region_list <| st1 hS (mv rfl) rfl fun a w hS => mkM (kv := kvA .u8) (ok := okA 3) (E := 3) (g := (ci .i64)) (sz := 1) hS rfl fun w b5837 f5838 hM5839 hS => st1 hS (bld ([str s5834, .map (some b5837)]) [(0, 1), (1, 1)] Tryd.zeroValue90 Tryd.runUnderlying90 (by intro w; simp [Tryd.sizeOf88, Tryd.sizeOf9]) rfl rfl) rfl fun a w hS => bx ([str s5834, .map (some b5837)]) hS rfl rfl rfl fun w b5840 f5841 hB5842 hS => st1 hS (asg rfl) rfl fun a w hS => wpList_nil <| then_n <| wp_seq <| wp_region_list <| st1 hS (asg rfl) rfl fun a w hS => ?_
 obtain ⟨f5843, hV5844, hS⟩ := hS.nilV 32 T_api_Token.cells 3
 refine wpList_nil <| then_n <| wp_seq <| wp_seq <| wp_region_list <| st1 hS (asg rfl) rfl fun a w hS => wpList_nil <| then_n <| wp_block <| s_loopJ (fun k6065 a w => ∃ (seen6056 : (List ((List Int) × (List Int)))) (f6057 : Frag) (A6059 : Option Addr) (c6060 : Nat) (l_6061 : (List T_api_Token)) (f6062 : Frag) (i6064 : Int), Ss 41 [] [(0, str s5834), (3, ptr b5840 0), (4, .slice A6059 l_6061.length c6060), (5, .int .i64 i6064)] H [f5841, f6057, f6062] F a w ∧ (MapF (kvA .u8) (okA 3) 3 (ci .i64) 1 b5837 seen6056 f6057) ∧ (Vec 32 T_api_Token.cells 3 A6059 l_6061 c6060 f6062) ∧ (match_Find.l1 K s5834 k6065 seen6056 l_6061 i6064).wp kr kp) K ?_ ?_ ?_
 ·exact ⟨([] : List ((List Int) × (List Int))), f5838, none, 0, ([] : List T_api_Token), f5843, (0 : Int), hS.to [1, 2, 0] (by kernel_rfl) ⟨rfl, rfl, rfl, rfl, trivial⟩, hM5839, hV5844, hM⟩
 ·intro a w hI; obtain ⟨_, _, _, _, _, _, _, _, _, _, hM⟩ := hI; exact wp_fail hM
 ·intro k6065 a w hI J6119 hJ6119
  obtain ⟨seen6056, f6057, A6059, c6060, l_6061, f6062, i6064, hS, hM6058, hV6063, hM⟩ := hI
  rw [match_Find.l1] at hM
  refine wp_seq <| wp_seq <| wp_region_list <| st1 hS (mv rfl) rfl fun a w hS => st1 hS (mv rfl) rfl fun a w hS => st1 hS (lenS rfl Tryd.runUnderlying9) rfl fun a w hS => st1 hS (bin rfl rfl rfl) rfl fun a w hS => wpList_nil <| then_n <| s_cond hS rfl hM (fun hb6066 hM => ?_) (fun hb6066 hM => ?_)
  ·refine wp_skip ?_
   refine then_n <| wp_block <| wp_seq <| wp_region_list <| st1 hS (mv rfl) rfl fun a w hS => st1 hS (mv rfl) rfl fun a w hS => s_call hS rfl Tryd.call43 (match_finder_best_c hG K (T_match_finder.mk s5834 seen6056) i6064 b5840 f5841 b5837 f6057 hB5842 hM6058 (hS.st.part 2 [0, 1, 2] (by kernel_rfl)) (wp_bind hM) (fun len6067 dist6068 w hM  hst => s_back hS.ev hst.appF rfl fun hS => ?_))
   replace hS : Ss _ _ _ H [f5841, f6057, f6062] F _ _ := hS
   refine alc ([.int .u8 (0 : Int), .int .i64 (0 : Int), .int .i64 (0 : Int)]) hS Tryd.zeroValue32 rfl rfl fun w b6069 f6070 hB6071 hS => stB 0 ([.int .u8 (0 : Int), .int .i64 len6067, .int .i64 dist6068]) ([.int .u8 (0 : Int), .int .i64 len6067, .int .i64 dist6068]) hS rfl rfl hB6071 rfl rfl Tryd.sizeOf32 (by simp [Value.oneCell']) (Nat.le_of_ble_eq_true rfl) rfl fun w f6072 hB6073 hS => wpList_nil <| then_n <| seq_joinJ (fun a w => ∃ (lit6078 : Int) (len6079 : Int) (dist6080 : Int) (f6081 : Frag), Ss 41 [] [(0, str s5834), (3, ptr b5840 0), (4, .slice A6059 l_6061.length c6060), (5, .int .i64 i6064), (6, ptr b6069 0)] H [f5841, f6057, f6062, f6081] F a w ∧ (Blk f6081 b6069 ([.int .u8 lit6078, .int .i64 len6079, .int .i64 dist6080]) 32) ∧ (match_Find.j2 K (match_Find.l1 K s5834 k6065) s5834 seen6056 l_6061 i6064 lit6078 len6079 dist6080).wp kr kp) (fun J6083 hJ6083 => ?_) ?_
   ·refine wp_seq ?_
    refine wp_region_list <| st1 hS (fad rfl Tryd.runUnderlying32 rfl Tryd.sizeOf3 rfl) rfl fun a w hS => st1 hS (ldb 0 rfl hB6073 rfl rfl Tryd.isAgg3) rfl fun a w hS => st1 hS (bin rfl rfl rfl) rfl fun a w hS => wpList_nil <| then_n <| s_cond hS rfl hM (fun hb6074 hM => ?_) (fun hb6074 hM => ?_)
    ·refine wp_region_list ?_
     refine st1 hS (mv rfl) rfl fun a w hS => st1 hS (mv rfl) rfl fun a w hS => ?_
     obtain ⟨hk6075, hM⟩ := wp_chk hM
     refine st1 hS (ixs rfl rfl Tryd.runUnderlying9 hk6075) rfl fun a w hS => st1 hS (bld ([.int .u8 ((rd s5834 i6064).toNat : Int), .int .i64 (0 : Int), .int .i64 (0 : Int)]) [(0, 1), (1, 1), (2, 1)] Tryd.zeroValue32 Tryd.runUnderlying32 (by intro w; simp [Tryd.sizeOf3, Tryd.sizeOf5]) rfl rfl) rfl fun a w hS => stB 0 ([.int .u8 ((rd s5834 i6064).toNat : Int), .int .i64 (0 : Int), .int .i64 (0 : Int)]) ([.int .u8 ((rd s5834 i6064).toNat : Int), .int .i64 (0 : Int), .int .i64 (0 : Int)]) hS rfl rfl hB6073 rfl rfl Tryd.sizeOf32 (by simp [Value.oneCell']) (Nat.le_of_ble_eq_true rfl) rfl fun w f6076 hB6077 hS => wpList_nil <| then_n ?_
     exact hJ6083 _ _ ⟨((rd s5834 i6064).toNat : Int), (0 : Int), (0 : Int), f6076, hS.to [1, 2, 3, 0] (by kernel_rfl) ⟨rfl, rfl, rfl, rfl, rfl, trivial⟩, hB6077, hM⟩
    ·refine wp_skip ?_
     refine then_n ?_
     exact hJ6083 _ _ ⟨(0 : Int), len6067, dist6068, f6072, hS.to [1, 2, 3, 0] (by kernel_rfl) ⟨rfl, rfl, rfl, rfl, rfl, trivial⟩, hB6073, hM⟩
   ·intro a w hI
    obtain ⟨lit6078, len6079, dist6080, f6081, hS, hB6082, hM⟩ := hI
    rw [match_Find.j2] at hM
    refine wp_seq <| wp_region_list <| st1 hS (mv rfl) rfl fun a w hS => st1 hS (ldbA 3 rfl hB6082 rfl ([.int .u8 lit6078, .int .i64 len6079, .int .i64 dist6080]) rfl rfl Tryd.isAgg32 Tryd.sizeOf32) rfl fun a w hS => bsl (g := T_api_Token.cells) ([(T_api_Token.mk lit6078 len6079 dist6080)] : List T_api_Token) [.agg ⟨[.int .u8 lit6078, .int .i64 len6079, .int .i64 dist6080]⟩] hS Tryd.runUnderlying25 Tryd.sizeOf32 X.el32 rfl rfl rfl (by simp [Value.cells]) rfl rfl rfl rfl rfl fun w A6084 c6085 f6086 hV6087 hS => ?_
    obtain ⟨hk6088, hM⟩ := wp_chk hM
    refine apV (ys := ([(T_api_Token.mk lit6078 len6079 dist6080)] : List T_api_Token)) 3 hS rfl rfl hV6063 rfl (hV6087.rd (i := 0) rfl) Tryd.runUnderlying25 Tryd.runUnderlying25 X.el32 (fun _ => rfl) rfl one_t32 hk6088 rfl fun zs6093 w A6089 c6090 f6091 hz hV6092 hS => ?_
    have hM := lt_to hz hM; clear hz
    refine st1 hS (asg rfl) rfl fun a w hS => wpList_nil <| then_n <| wp_seq <| wp_region_list <| st1 hS (fad rfl Tryd.runUnderlying32 rfl Tryd.sizeOf3 rfl) rfl fun a w hS => st1 hS (ldb 4 rfl hB6082 rfl rfl Tryd.isAgg3) rfl fun a w hS => st1 hS (maxI rfl rfl) rfl fun a w hS => st1 hS (mv rfl) rfl fun a w hS => wpList_nil <| then_n <| wp_block <| s_loopJ (fun k6112 a w => ∃ (seen6107 : (List ((List Int) × (List Int)))) (f6108 : Frag) (i6110 : Int) (v6111 : Int), Ss 41 [] [(0, str s5834), (3, ptr b5840 0), (4, .slice A6089 zs6093.length c6090), (5, .int .i64 i6110), (31, .int .i64 (if len6079 > (1 : Int) then len6079 else (1 : Int))), (32, .int .i64 v6111)] H [f5841, f6108, f6091] F a w ∧ (MapF (kvA .u8) (okA 3) 3 (ci .i64) 1 b5837 seen6107 f6108) ∧ (match_Find.l3 K (match_Find.l1 K s5834 k6065) s5834 len6079 zs6093 k6112 seen6107 i6110 v6111).wp kr kp) K ?_ ?_ ?_
    ·exact ⟨seen6056, f6057, i6064, (0 : Int), hS.to [1, 2, 3] (by kernel_rfl) ⟨rfl, rfl, rfl, rfl, rfl, rfl, trivial⟩, hM6058, hM⟩
    ·intro a w hI; obtain ⟨_, _, _, _, _, _, hM⟩ := hI; exact wp_fail hM
    ·intro k6112 a w hI J6118 hJ6118
     obtain ⟨seen6107, f6108, i6110, v6111, hS, hM6109, hM⟩ := hI
     rw [match_Find.l3] at hM
     refine wp_seq <| wp_region_list <| st1 hS (bin rfl rfl rfl) rfl fun a w hS => wpList_nil <| then_n <| wp_seq <| s_cond hS rfl hM (fun hb6113 hM => ?_) (fun hb6113 hM => ?_)
     ·refine wp_skip ?_
      refine then_n <| wp_seq <| wp_block <| wp_seq <| wp_region_list <| st1 hS (mv rfl) rfl fun a w hS => st1 hS (mv rfl) rfl fun a w hS => s_call hS rfl Tryd.call44 (match_finder_note_c hG K (T_match_finder.mk s5834 seen6107) i6110 b5840 f5841 b5837 f6108 hB5842 hM6109 (hS.st.part 2 [0, 1, 2] (by kernel_rfl)) (wp_bind hM) (fun seen6114 f6115 w hM h6116 hst => s_back hS.ev hst.appF rfl fun hS => ?_))
      replace hS : Ss _ _ _ H [f5841, f6115, f6091] F _ _ := hS
      refine wpList_nil <| then_n <| wp_region_list <| st1 hS (mv rfl) rfl fun a w hS => st1 hS (bin rfl rfl rfl) rfl fun a w hS => st1x (v := Value.int .i64) (x0 := (w64 (i6110 + (1 : Int)))) hS (asg rfl) rfl fun i6117 a w hz hS => ?_
      have hM := lt_to hz hM; clear hz
      refine wpList_nil <| blk_n (then_n ?_)
      refine wp_region_list <| st1 hS (bin rfl rfl rfl) rfl fun a w hS => st1 hS (mv rfl) rfl fun a w hS => wpList_nil <| then_n ?_
      exact hJ6118 _ _ ⟨seen6114, f6115, i6117, (w64 (v6111 + (1 : Int))), hS.to [0, 1, 2] (by kernel_rfl) ⟨rfl, rfl, rfl, rfl, rfl, rfl, trivial⟩, h6116, hM⟩
     ·refine wp_exit ?_
      refine then_ex (then_ex (blk_same (blk_n (then_n ?_))))
      exact hJ6119 _ _ ⟨seen6107, f6108, A6089, c6090, zs6093, f6091, i6110, hS.to [0, 1, 2] (by kernel_rfl) ⟨rfl, rfl, rfl, rfl, trivial⟩, hM6109, hV6092, hM⟩
  ·refine wp_exit ?_
   refine then_ex (then_ex (blk_same (then_n ?_)))
   refine wp_seq <| wp_region_list <| st1 hS (mv rfl) rfl fun a w hS => st1 hS (asg rfl) rfl fun a w hS => wpList_nil <| then_n <| wp_ret ?_
   exact s_ret (rs := [2]) hS rfl rfl (hret A6059 c6060 l_6061 f6062 w (wp_ok hM) hV6063 (hS.st.pick [2] (by kernel_rfl)))

theorem deflate_Deflate_c {H : Imm} {F : List Frag} {w : World} {R : Ending → World → Prop} {kr : (List UInt8) → Prop} {kp : Value → Prop} (hG : Gl H) (K : Nat) (s5833 : List UInt8)
    (hS : St w H [] F) (hm : (deflate_Deflate.m K s5833).wp kr kp)
    (hret : ∀ (x6139 : List UInt8) (w : World), kr x6139 → St w H [] F → R (.returned (str x6139)) w)
    (hpan : ∀ v w, kp v → St w H [] F → R (.panicked [⟨v, false, false⟩]) w) :
    Calls Tryd.prog 18 ⟨[str s5833]⟩ w R := by
 refine enter Tryd.func18 rfl Tryd.ntmps18 rfl hS fun a w hS => ?_
 have hM := hm; clear hm
 rw [deflate_Deflate.m] at hM
 refine wp_seq <| wp_region_list <| st1 hS (asg rfl) rfl fun a w hS => wpList_nil <| then_n <| wp_seq <| wp_region_list <| st1 hS (mv rfl) rfl fun a w hS => s_call hS rfl Tryd.call19 (match_Find_c hG K s5833 (hS.st.part 0 [] (by kernel_rfl)) (wp_bind hM) (fun A6125 c6126 x6127 f6128 w hM h6129 hst => s_back hS.ev hst.appF rfl fun hS => ?_))
 replace hS : Ss _ _ _ H [f6128] F _ _ := hS
 refine st1 hS (asg rfl) rfl fun a w hS => wpList_nil <| then_n <| wp_seq <| wp_region_list <| st1 hS (mv rfl) rfl fun a w hS => s_call hS rfl Tryd.call10 (deflate_Stored_c hG K s5833 (hS.st.part 0 [0] (by kernel_rfl)) (wp_bind hM) (fun x6130 w hM  hst => s_back hS.ev hst.appF rfl fun hS => ?_))
 replace hS : Ss _ _ _ H [f6128] F _ _ := hS
 refine st1 hS (asg rfl) rfl fun a w hS => wpList_nil <| then_n <| seq_joinJ (fun a w => ∃ (best6134 : List UInt8), Ss 44 [] [(3, .slice A6125 x6127.length c6126), (4, str best6134)] H [f6128] F a w ∧ (deflate_Deflate.j1 K x6127 best6134).wp kr kp) (fun J6135 hJ6135 => ?_) ?_
 ·refine wp_seq ?_
  refine wp_region_list <| st1 hS (mv rfl) rfl fun a w hS => s_call hS rfl Tryd.call12 (deflate_Fixed_c hG K x6127 A6125 c6126 (h6129.rdF (i := 0) rfl) (h6129.cap (fun _ => rfl) rfl) (hS.st.part 0 [0] (by kernel_rfl)) (wp_bind hM) (fun x6131 x6132 w hM  hst => s_back hS.ev hst.appF rfl fun hS => ?_))
  replace hS : Ss _ _ _ H [f6128] F _ _ := hS
  refine st1 hS (mv rfl) rfl fun a w hS => st1 hS (ex rfl rfl) rfl fun a w hS => st1 hS (ex rfl rfl) rfl fun a w hS => st1 hS (asg rfl) rfl fun a w hS => st1 hS (asg rfl) rfl fun a w hS => wpList_nil <| then_n <| wp_seq <| wp_region_list <| st1 hS (mv rfl) rfl fun a w hS => st1 hS (bin rfl rfl rfl) rfl fun a w hS => st1 hS (mv rfl) rfl fun a w hS => g_op 5 true 20 (b := (x6132 == (0 : Int))) (r := (decide ((x6131.length : Int) < (x6130.length : Int)))) hS rfl rfl rfl rfl rfl rfl rfl (fun hb a w hS K hK => ?_) rfl fun a w hS => ?_
  ·refine st1g hS rfl rfl rfl hb (mv rfl) rfl fun a w hS => ?_
   refine st1g hS rfl rfl rfl hb (lenS rfl Tryd.runUnderlying9) rfl fun a w hS => st1g hS rfl rfl rfl hb (mv rfl) rfl fun a w hS => st1g hS rfl rfl rfl hb (lenS rfl Tryd.runUnderlying9) rfl fun a w hS => st1g hS rfl rfl rfl hb (bin rfl rfl rfl) rfl fun a w hS => ?_
   exact wpList_nil (hK _ _ (hS.up 5 rfl rfl))
  refine wpList_nil <| then_n <| s_cond hS rfl hM (fun hb6133 hM => ?_) (fun hb6133 hM => ?_)
  ·refine wp_region_list ?_
   refine st1 hS (mv rfl) rfl fun a w hS => st1 hS (asg rfl) rfl fun a w hS => wpList_nil <| then_n ?_
   exact hJ6135 _ _ ⟨x6131, hS.to [0] (by kernel_rfl) ⟨rfl, rfl, trivial⟩, hM⟩
  ·refine wp_skip ?_
   refine then_n ?_
   exact hJ6135 _ _ ⟨x6130, hS.to [0] (by kernel_rfl) ⟨rfl, rfl, trivial⟩, hM⟩
 ·intro a w hI
  obtain ⟨best6134, hS, hM⟩ := hI
  rw [deflate_Deflate.j1] at hM
  refine wp_seq <| wp_seq <| wp_region_list <| st1 hS (mv rfl) rfl fun a w hS => s_call hS rfl Tryd.call14 (deflate_Dynamic_c hG K x6127 A6125 c6126 (h6129.rdF (i := 0) rfl) (h6129.cap (fun _ => rfl) rfl) (hS.st.part 0 [0] (by kernel_rfl)) (wp_bind hM) (fun x6136 x6137 w hM  hst => s_back hS.ev hst.appF rfl fun hS => ?_) (fun v w hk hst => s_pan (then_pan (then_pan (⟨hS.ev.defs, hpan _ _ hk hst.appF.frame⟩)))))
  replace hS : Ss _ _ _ H [f6128] F _ _ := hS
  refine st1 hS (mv rfl) rfl fun a w hS => st1 hS (ex rfl rfl) rfl fun a w hS => st1 hS (ex rfl rfl) rfl fun a w hS => st1 hS (asg rfl) rfl fun a w hS => st1 hS (asg rfl) rfl fun a w hS => wpList_nil <| then_n <| wp_seq <| wp_region_list <| st1 hS (mv rfl) rfl fun a w hS => st1 hS (bin rfl rfl rfl) rfl fun a w hS => st1 hS (mv rfl) rfl fun a w hS => g_op 5 true 35 (b := (x6137 == (0 : Int))) (r := (decide ((x6136.length : Int) < (best6134.length : Int)))) hS rfl rfl rfl rfl rfl rfl rfl (fun hb a w hS K hK => ?_) rfl fun a w hS => ?_
  ·refine st1g hS rfl rfl rfl hb (mv rfl) rfl fun a w hS => ?_
   refine st1g hS rfl rfl rfl hb (lenS rfl Tryd.runUnderlying9) rfl fun a w hS => st1g hS rfl rfl rfl hb (mv rfl) rfl fun a w hS => st1g hS rfl rfl rfl hb (lenS rfl Tryd.runUnderlying9) rfl fun a w hS => st1g hS rfl rfl rfl hb (bin rfl rfl rfl) rfl fun a w hS => ?_
   exact wpList_nil (hK _ _ (hS.up 5 rfl rfl))
  refine wpList_nil <| then_n <| s_cond hS rfl hM (fun hb6138 hM => ?_) (fun hb6138 hM => ?_)
  ·refine wp_region_list ?_
   refine st1 hS (mv rfl) rfl fun a w hS => st1 hS (asg rfl) rfl fun a w hS => wpList_nil <| then_n <| wp_seq <| wp_region_list <| st1 hS (mv rfl) rfl fun a w hS => st1 hS (asg rfl) rfl fun a w hS => wpList_nil <| then_n <| wp_ret ?_
   exact s_ret (rs := [2]) hS rfl rfl (hret x6136 w (wp_ok hM) (hS.st.pick [] (by kernel_rfl)))
  ·refine wp_skip ?_
   refine then_n <| wp_seq <| wp_region_list <| st1 hS (mv rfl) rfl fun a w hS => st1 hS (asg rfl) rfl fun a w hS => wpList_nil <| then_n <| wp_ret ?_
   exact s_ret (rs := [2]) hS rfl rfl (hret best6134 w (wp_ok hM) (hS.st.pick [] (by kernel_rfl)))

theorem mortiselaw09_live_c {H : Imm} {F : List Frag} {w : World} {R : Ending → World → Prop} {kr : Bool → Prop} {kp : Value → Prop} (hG : Gl H) (K : Nat)
    (hS : St w H [] F) (hm : (mortiselaw09_live.m K).wp kr kp)
    (hret : ∀ (x6143 : Bool) (w : World), kr x6143 → St w H [] F → R (.returned (.bool x6143)) w)
    (hpan : ∀ v w, kp v → St w H [] F → R (.panicked [⟨v, false, false⟩]) w) :
    Calls Tryd.prog 9 ⟨[]⟩ w R := by
 refine enter Tryd.func9 rfl Tryd.ntmps9 rfl hS fun a w hS => ?_
 have hM := hm; clear hm
 rw [mortiselaw09_live.m] at hM
 refine wp_seq <| wp_region_list <| st1 hS (asg rfl) rfl fun a w hS => wpList_nil <| then_n <| wp_seq <| wp_region_list <| st1 hS (bld ([.int .u8 (97 : Int), .int .i64 (0 : Int), .int .i64 (0 : Int)]) [(0, 1), (1, 1), (2, 1)] Tryd.zeroValue32 Tryd.runUnderlying32 (by intro w; simp [Tryd.sizeOf3, Tryd.sizeOf5]) rfl rfl) rfl fun a w hS => bsl (g := T_api_Token.cells) ([(T_api_Token.mk (97 : Int) (0 : Int) (0 : Int))] : List T_api_Token) [.agg ⟨[.int .u8 (97 : Int), .int .i64 (0 : Int), .int .i64 (0 : Int)]⟩] hS Tryd.runUnderlying25 Tryd.sizeOf32 X.el32 rfl rfl rfl (by simp [Value.cells]) rfl rfl rfl rfl rfl fun w A7 c8 f9 hV10 hS => s_call hS rfl Tryd.call12 (deflate_Fixed_c hG K ([(T_api_Token.mk (97 : Int) (0 : Int) (0 : Int))] : List T_api_Token) A7 c8 (hV10.rdF (i := 0) rfl) (hV10.cap (fun _ => rfl) rfl) (hS.st.part 0 [0] (by kernel_rfl)) (wp_bind hM) (fun x1212 x1213 w hM  hst => s_back hS.ev hst.appF rfl fun hS => ?_))
 replace hS : Ss _ _ _ H [f9] F _ _ := hS
 refine st1 hS (mv rfl) rfl fun a w hS => st1 hS (ex rfl rfl) rfl fun a w hS => st1 hS (ex rfl rfl) rfl fun a w hS => st1 hS (asg rfl) rfl fun a w hS => st1 hS (asg rfl) rfl fun a w hS => wpList_nil <| then_n <| wp_seq <| wp_region_list <| st1 hS (bld ([.int .u8 (0 : Int), .int .i64 (1 : Int), .int .i64 (0 : Int)]) [(0, 1), (1, 1), (2, 1)] Tryd.zeroValue32 Tryd.runUnderlying32 (by intro w; simp [Tryd.sizeOf3, Tryd.sizeOf5]) rfl rfl) rfl fun a w hS => bsl (g := T_api_Token.cells) ([(T_api_Token.mk (0 : Int) (1 : Int) (0 : Int))] : List T_api_Token) [.agg ⟨[.int .u8 (0 : Int), .int .i64 (1 : Int), .int .i64 (0 : Int)]⟩] hS Tryd.runUnderlying25 Tryd.sizeOf32 X.el32 rfl rfl rfl (by simp [Value.cells]) rfl rfl rfl rfl rfl fun w A1214 c1215 f1216 hV1217 hS => s_call hS rfl Tryd.call14 (deflate_Dynamic_c hG K ([(T_api_Token.mk (0 : Int) (1 : Int) (0 : Int))] : List T_api_Token) A1214 c1215 (hV1217.rdF (i := 0) rfl) (hV1217.cap (fun _ => rfl) rfl) (hS.st.part 0 [0, 1] (by kernel_rfl)) (wp_bind hM) (fun x5759 x5760 w hM  hst => s_back hS.ev hst.appF rfl fun hS => ?_) (fun v w hk hst => s_pan (then_pan (⟨hS.ev.defs, hpan _ _ hk hst.appF.frame⟩))))
 replace hS : Ss _ _ _ H [f1216, f9] F _ _ := hS
 refine st1 hS (mv rfl) rfl fun a w hS => st1 hS (ex rfl rfl) rfl fun a w hS => st1 hS (ex rfl rfl) rfl fun a w hS => st1 hS (asg rfl) rfl fun a w hS => st1 hS (asg rfl) rfl fun a w hS => wpList_nil <| then_n <| wp_seq <| wp_region_list <| s_call hS rfl Tryd.call10 (deflate_Stored_c hG K ([] : List UInt8) (hS.st.part 0 [0, 1] (by kernel_rfl)) (wp_bind hM) (fun x5831 w hM  hst => s_back hS.ev hst.appF rfl fun hS => ?_))
 replace hS : Ss _ _ _ H [f1216, f9] F _ _ := hS
 refine st1 hS (bins rfl rfl rfl) rfl fun a w hS => st1 hS (mv rfl) rfl fun a w hS => g_op 2 true 19 (b := (x5831 == ([1, 0, 0, 255, 255] : List UInt8))) (r := (x1212 == ([75, 4, 0] : List UInt8))) hS rfl rfl rfl rfl rfl rfl rfl (fun hb a w hS K hK => ?_) rfl fun a w hS => ?_
 ·refine st1g hS rfl rfl rfl hb (mv rfl) rfl fun a w hS => ?_
  refine st1g hS rfl rfl rfl hb (bins rfl rfl rfl) rfl fun a w hS => ?_
  exact wpList_nil (hK _ _ (hS.up 2 rfl rfl))
 refine st1 hS (mv rfl) rfl fun a w hS => g_op 2 true 23 (b := ((x5831 == ([1, 0, 0, 255, 255] : List UInt8)) && (x1212 == ([75, 4, 0] : List UInt8)))) (r := (x1213 == (0 : Int))) hS rfl rfl rfl rfl rfl rfl rfl (fun hb a w hS K hK => ?_) rfl fun a w hS => ?_
 ·refine st1g hS rfl rfl rfl hb (mv rfl) rfl fun a w hS => ?_
  refine st1g hS rfl rfl rfl hb (bin rfl rfl rfl) rfl fun a w hS => ?_
  exact wpList_nil (hK _ _ (hS.up 2 rfl rfl))
 refine st1 hS (mv rfl) rfl fun a w hS => g_op 2 true 27 (b := (((x5831 == ([1, 0, 0, 255, 255] : List UInt8)) && (x1212 == ([75, 4, 0] : List UInt8))) && (x1213 == (0 : Int)))) (r := (x5760 == (1 : Int))) hS rfl rfl rfl rfl rfl rfl rfl (fun hb a w hS K hK => ?_) rfl fun a w hS => ?_
 ·refine st1g hS rfl rfl rfl hb (mv rfl) rfl fun a w hS => ?_
  refine st1g hS rfl rfl rfl hb (bin rfl rfl rfl) rfl fun a w hS => ?_
  exact wpList_nil (hK _ _ (hS.up 2 rfl rfl))
 refine st1 hS (mv rfl) rfl fun a w hS => seg_cutJ (fun a w => ∃ (v6141 : Bool), Ss 35 [] [(34, .bool v6141)] H [] F a w ∧ (mortiselaw09_live.j1 K v6141).wp kr kp) 3 (fun J6142 hJ6142 => ?_) ?_
 ·refine ifB (b := ((((x5831 == ([1, 0, 0, 255, 255] : List UInt8)) && (x1212 == ([75, 4, 0] : List UInt8))) && (x1213 == (0 : Int))) && (x5760 == (1 : Int)))) hM (fun hb5832 hM => ?_) (fun hb5832 hM => ?_)
  ·replace hS := hS.re 30 (v := .bool true) rfl (congrArg Value.bool hb5832)
   replace hS := hS.re 31 (v := .bool true) rfl (congrArg Value.bool hb5832)
   refine unguard hS rfl rfl rfl rfl <| s_call hS rfl Tryd.call18 (deflate_Deflate_c hG K ([] : List UInt8) (hS.st.part 0 [0, 1] (by kernel_rfl)) (wp_bind hM) (fun x6140 w hM  hst => s_back hS.ev hst.appF rfl fun hS => ?_) (fun v w hk hst => s_pan (then_pan (then_pan (⟨hS.ev.defs, hpan _ _ hk hst.appF.frame⟩)))))
   replace hS : Ss _ _ _ H [f1216, f9] F _ _ := hS
   refine st1g hS rfl rfl rfl rfl (bins rfl rfl rfl) rfl fun a w hS => st1 hS (pk rfl rfl rfl) rfl fun a w hS => wpList_nil <| then_n ?_
   exact hJ6142 _ _ ⟨(!(x6140 == ([] : List UInt8))), hS.to [] (by kernel_rfl) ⟨rfl, trivial⟩, hM⟩
  ·replace hS := hS.re 30 (v := .bool false) rfl (congrArg Value.bool hb5832)
   replace hS := hS.re 31 (v := .bool false) rfl (congrArg Value.bool hb5832)
   refine skips 2 hS rfl fun a w hS => st1 hS (pk rfl rfl rfl) rfl fun a w hS => wpList_nil <| then_n ?_
   exact hJ6142 _ _ ⟨false, hS.to [] (by kernel_rfl) ⟨rfl, trivial⟩, hM⟩
 ·intro a w hI
  obtain ⟨v6141, hS, hM⟩ := hI
  rw [mortiselaw09_live.j1] at hM
  refine st1 hS (asg rfl) rfl fun a w hS => wpList_nil <| then_n <| wp_ret ?_
  exact s_ret (rs := [0]) hS rfl rfl (hret v6141 w (wp_ok hM) (hS.st.pick [] (by kernel_rfl)))

theorem mortiseref07_Fixed_c {H : Imm} {F : List Frag} {w : World} {R : Ending → World → Prop} {kr : ((List Int) × (List Int)) → Prop} {kp : Value → Prop} (hG : Gl H) (K : Nat)
    (hS : St w H [] F) (hm : (mortiseref07_Fixed.m K).wp kr kp)
    (hret : ∀ (A6256 : Option Addr) (c6257 : Nat) (x6258 : (List Int)) (f6259 : Frag) (A6261 : Option Addr) (c6262 : Nat) (x6263 : (List Int)) (f6264 : Frag) (w : World), kr (x6258, x6263) → (Vec 3 (ci .i64) 1 A6256 x6258 c6257 f6259) → (Vec 3 (ci .i64) 1 A6261 x6263 c6262 f6264) → St w H [f6259, f6264] F → R (.returned (.tuple ⟨[.slice A6256 x6258.length c6257, .slice A6261 x6263.length c6262]⟩)) w) :
    Calls Tryd.prog 26 ⟨[]⟩ w R := by
 refine enter Tryd.func26 rfl Tryd.ntmps26 rfl hS fun a w hS => ?_
 have hM := hm; clear hm
 rw [mortiseref07_Fixed.m] at hM
 refine wp_seq <| wp_region_list <| st1 hS (asg rfl) rfl fun a w hS => ?_
 obtain ⟨f6152, hV6153, hS⟩ := hS.nilV 3 (ci .i64) 1
 refine st1 hS (asg rfl) rfl fun a w hS => ?_
 obtain ⟨f6154, hV6155, hS⟩ := hS.nilV 3 (ci .i64) 1
 refine wpList_nil <| then_n <| wp_seq <| wp_region_list ?_
 obtain ⟨hk6156, hM⟩ := wp_chk hM
 refine mkS (g := (ci .i64)) (m := (288 : Int)) (0 : Int) hS rfl rfl (by simp) Tryd.runUnderlying45 X.el3 (fun w => ⟨_, Tryd.zeroValue3 w, rfl⟩) (fun _ => rfl) rfl rfl hk6156 rfl fun zs6161 w A6157 c6158 f6159 hz hV6160 hS => ?_
 have hM := lt_to hz hM; clear hz
 refine st1 hS (asg rfl) rfl fun a w hS => wpList_nil <| then_n <| seq_joinJ (fun a w => ∃ (l_6220 : (List Int)) (f6221 : Frag), Ss 40 [] [(2, .slice A6157 l_6220.length c6158)] H [f6221] F a w ∧ (Vec 3 (ci .i64) 1 A6157 l_6220 c6158 f6221) ∧ (mortiseref07_Fixed.j2 K l_6220).wp kr kp) (fun J6223 hJ6223 => ?_) ?_
 ·refine wp_seq ?_
  refine wp_region_list <| st1 hS (asg rfl) rfl fun a w hS => wpList_nil <| then_n <| wp_block <| s_loopJ (fun k6195 a w => ∃ (l_6191 : (List Int)) (f6192 : Frag) (i6194 : Int), Ss 40 [] [(2, .slice A6157 l_6191.length c6158), (3, .int .i64 i6194)] H [f6192] F a w ∧ (Vec 3 (ci .i64) 1 A6157 l_6191 c6158 f6192) ∧ (mortiseref07_Fixed.l1 K k6195 l_6191 i6194).wp kr kp) K ?_ ?_ ?_
  ·exact ⟨zs6161, f6159, (0 : Int), hS.to [0] (by kernel_rfl) ⟨rfl, rfl, trivial⟩, hV6160, hM⟩
  ·intro a w hI; obtain ⟨_, _, _, _, _, hM⟩ := hI; exact wp_fail hM
  ·intro k6195 a w hI J6219 hJ6219
   obtain ⟨l_6191, f6192, i6194, hS, hV6193, hM⟩ := hI
   rw [mortiseref07_Fixed.l1] at hM
   refine wp_seq <| wp_seq <| wp_region_list <| st1 hS (mv rfl) rfl fun a w hS => st1 hS (bin rfl rfl rfl) rfl fun a w hS => wpList_nil <| then_n <| s_cond hS rfl hM (fun hb6196 hM => ?_) (fun hb6196 hM => ?_)
   ·refine wp_skip ?_
    refine then_n <| wp_seq <| wp_block <| wp_block <| wp_seq <| wp_region_list <| st1 hS (mv rfl) rfl fun a w hS => st1 hS (bin rfl rfl rfl) rfl fun a w hS => st1 hS (mv rfl) rfl fun a w hS => g_op 2 false 17 (b := (decide (i6194 < (144 : Int)))) (r := (decide (i6194 > (279 : Int)))) hS rfl rfl rfl rfl rfl rfl rfl (fun hb a w hS K hK => ?_) rfl fun a w hS => ?_
    ·refine st1g hS rfl rfl rfl hb (mv rfl) rfl fun a w hS => ?_
     refine st1g hS rfl rfl rfl hb (bin rfl rfl rfl) rfl fun a w hS => ?_
     exact wpList_nil (hK _ _ (hS.up 2 rfl rfl))
    refine st1x (v := Value.bool) (x0 := ((decide (i6194 < (144 : Int))) || (decide (i6194 > (279 : Int))))) hS (asg rfl) rfl fun v6197 a w hz hS => ?_
    have hM := lt_to hz hM; clear hz
    refine wpList_nil <| then_n <| s_cond hS rfl hM (fun hb6198 hM => ?_) (fun hb6198 hM => ?_)
    ·refine wp_region_list ?_
     refine st1 hS (mv rfl) rfl fun a w hS => st1 hS (mv rfl) rfl fun a w hS => ?_
     obtain ⟨hk6199, hM⟩ := wp_chk hM
     refine st1 hS (ixV rfl rfl Tryd.runUnderlying45 Tryd.sizeOf3 (hV6193.rd (i := 0) rfl) (fun _ => rfl) rfl hk6199) rfl fun a w hS => stV (i := i6194) (sz := 1) 0 0 ((8 : Int)) hS rfl rfl hV6193 rfl Tryd.sizeOf3 (one_t3 (8 : Int)) (fun _ => rfl) hk6199 rfl rfl fun zs6202 w f6200 hz hz6203 hV6201 hS => ?_
     have hM := lt_to hz hM; clear hz
     replace hS := hS.re 2 (u := .slice A6157 l_6191.length c6158) (v := .slice A6157 zs6202.length c6158) rfl (by rw [hz6203])
     replace hS := hS.re 21 (u := .slice A6157 l_6191.length c6158) (v := .slice A6157 zs6202.length c6158) rfl (by rw [hz6203])
     refine wpList_nil <| blk_n (blk_n (then_n ?_))
     refine wp_region_list <| st1 hS (mv rfl) rfl fun a w hS => st1 hS (bin rfl rfl rfl) rfl fun a w hS => st1x (v := Value.int .i64) (x0 := (w64 (i6194 + (1 : Int)))) hS (asg rfl) rfl fun i6204 a w hz hS => ?_
     have hM := lt_to hz hM; clear hz
     refine wpList_nil <| then_n ?_
     exact hJ6219 _ _ ⟨zs6202, f6200, i6204, hS.to [0] (by kernel_rfl) ⟨rfl, rfl, trivial⟩, hV6201, hM⟩
    ·refine wp_seq ?_
     refine wp_region_list <| st1 hS (mv rfl) rfl fun a w hS => st1 hS (bin rfl rfl rfl) rfl fun a w hS => st1x (v := Value.bool) (x0 := (decide (i6194 < (256 : Int)))) hS (asg rfl) rfl fun v6205 a w hz hS => ?_
     have hM := lt_to hz hM; clear hz
     refine wpList_nil <| then_n <| s_cond hS rfl hM (fun hb6206 hM => ?_) (fun hb6206 hM => ?_)
     ·refine wp_region_list ?_
      refine st1 hS (mv rfl) rfl fun a w hS => st1 hS (mv rfl) rfl fun a w hS => ?_
      obtain ⟨hk6207, hM⟩ := wp_chk hM
      refine st1 hS (ixV rfl rfl Tryd.runUnderlying45 Tryd.sizeOf3 (hV6193.rd (i := 0) rfl) (fun _ => rfl) rfl hk6207) rfl fun a w hS => stV (i := i6194) (sz := 1) 0 0 ((9 : Int)) hS rfl rfl hV6193 rfl Tryd.sizeOf3 (one_t3 (9 : Int)) (fun _ => rfl) hk6207 rfl rfl fun zs6210 w f6208 hz hz6211 hV6209 hS => ?_
      have hM := lt_to hz hM; clear hz
      replace hS := hS.re 2 (u := .slice A6157 l_6191.length c6158) (v := .slice A6157 zs6210.length c6158) rfl (by rw [hz6211])
      replace hS := hS.re 27 (u := .slice A6157 l_6191.length c6158) (v := .slice A6157 zs6210.length c6158) rfl (by rw [hz6211])
      refine wpList_nil <| blk_n (blk_n (then_n ?_))
      refine wp_region_list <| st1 hS (mv rfl) rfl fun a w hS => st1 hS (bin rfl rfl rfl) rfl fun a w hS => st1x (v := Value.int .i64) (x0 := (w64 (i6194 + (1 : Int)))) hS (asg rfl) rfl fun i6212 a w hz hS => ?_
      have hM := lt_to hz hM; clear hz
      refine wpList_nil <| then_n ?_
      exact hJ6219 _ _ ⟨zs6210, f6208, i6212, hS.to [0] (by kernel_rfl) ⟨rfl, rfl, trivial⟩, hV6209, hM⟩
     ·refine wp_region_list ?_
      refine st1 hS (mv rfl) rfl fun a w hS => st1 hS (mv rfl) rfl fun a w hS => ?_
      obtain ⟨hk6213, hM⟩ := wp_chk hM
      refine st1 hS (ixV rfl rfl Tryd.runUnderlying45 Tryd.sizeOf3 (hV6193.rd (i := 0) rfl) (fun _ => rfl) rfl hk6213) rfl fun a w hS => stV (i := i6194) (sz := 1) 0 0 ((7 : Int)) hS rfl rfl hV6193 rfl Tryd.sizeOf3 (one_t3 (7 : Int)) (fun _ => rfl) hk6213 rfl rfl fun zs6216 w f6214 hz hz6217 hV6215 hS => ?_
      have hM := lt_to hz hM; clear hz
      replace hS := hS.re 2 (u := .slice A6157 l_6191.length c6158) (v := .slice A6157 zs6216.length c6158) rfl (by rw [hz6217])
      replace hS := hS.re 11 (u := .slice A6157 l_6191.length c6158) (v := .slice A6157 zs6216.length c6158) rfl (by rw [hz6217])
      refine wpList_nil <| blk_n (blk_n (then_n ?_))
      refine wp_region_list <| st1 hS (mv rfl) rfl fun a w hS => st1 hS (bin rfl rfl rfl) rfl fun a w hS => st1x (v := Value.int .i64) (x0 := (w64 (i6194 + (1 : Int)))) hS (asg rfl) rfl fun i6218 a w hz hS => ?_
      have hM := lt_to hz hM; clear hz
      refine wpList_nil <| then_n ?_
      exact hJ6219 _ _ ⟨zs6216, f6214, i6218, hS.to [0] (by kernel_rfl) ⟨rfl, rfl, trivial⟩, hV6215, hM⟩
   ·refine wp_exit ?_
    refine then_ex (then_ex (blk_same (then_n ?_)))
    exact hJ6223 _ _ ⟨l_6191, f6192, hS.to [0] (by kernel_rfl) ⟨rfl, trivial⟩, hV6193, hM⟩
 ·intro a w hI
  obtain ⟨l_6220, f6221, hS, hV6222, hM⟩ := hI
  rw [mortiseref07_Fixed.j2] at hM
  refine wp_seq <| wp_region_list ?_
  obtain ⟨hk6224, hM⟩ := wp_chk hM
  refine mkS (g := (ci .i64)) (m := (32 : Int)) (0 : Int) hS rfl rfl (by simp) Tryd.runUnderlying45 X.el3 (fun w => ⟨_, Tryd.zeroValue3 w, rfl⟩) (fun _ => rfl) rfl rfl hk6224 rfl fun zs6229 w A6225 c6226 f6227 hz hV6228 hS => ?_
  have hM := lt_to hz hM; clear hz
  refine st1 hS (asg rfl) rfl fun a w hS => wpList_nil <| then_n <| wp_seq <| wp_seq <| wp_region_list <| st1 hS (asg rfl) rfl fun a w hS => wpList_nil <| then_n <| wp_block <| s_loopJ (fun k6247 a w => ∃ (d6243 : (List Int)) (f6244 : Frag) (i6246 : Int), Ss 40 [] [(2, .slice A6157 l_6220.length c6158), (4, .slice A6225 d6243.length c6226), (5, .int .i64 i6246)] H [f6221, f6244] F a w ∧ (Vec 3 (ci .i64) 1 A6225 d6243 c6226 f6244) ∧ (mortiseref07_Fixed.l3 K l_6220 k6247 d6243 i6246).wp kr kp) K ?_ ?_ ?_
  ·exact ⟨zs6229, f6227, (0 : Int), hS.to [1, 0] (by kernel_rfl) ⟨rfl, rfl, rfl, trivial⟩, hV6228, hM⟩
  ·intro a w hI; obtain ⟨_, _, _, _, _, hM⟩ := hI; exact wp_fail hM
  ·intro k6247 a w hI J6255 hJ6255
   obtain ⟨d6243, f6244, i6246, hS, hV6245, hM⟩ := hI
   rw [mortiseref07_Fixed.l3] at hM
   refine wp_seq <| wp_seq <| wp_region_list <| st1 hS (mv rfl) rfl fun a w hS => st1 hS (bin rfl rfl rfl) rfl fun a w hS => wpList_nil <| then_n <| s_cond hS rfl hM (fun hb6248 hM => ?_) (fun hb6248 hM => ?_)
   ·refine wp_skip ?_
    refine then_n <| wp_seq <| wp_block <| wp_region_list <| st1 hS (mv rfl) rfl fun a w hS => st1 hS (mv rfl) rfl fun a w hS => ?_
    obtain ⟨hk6249, hM⟩ := wp_chk hM
    refine st1 hS (ixV rfl rfl Tryd.runUnderlying45 Tryd.sizeOf3 (hV6245.rd (i := 1) rfl) (fun _ => rfl) rfl hk6249) rfl fun a w hS => stV (i := i6246) (sz := 1) 1 0 ((5 : Int)) hS rfl rfl hV6245 rfl Tryd.sizeOf3 (one_t3 (5 : Int)) (fun _ => rfl) hk6249 rfl rfl fun zs6252 w f6250 hz hz6253 hV6251 hS => ?_
    have hM := lt_to hz hM; clear hz
    replace hS := hS.re 4 (u := .slice A6225 d6243.length c6226) (v := .slice A6225 zs6252.length c6226) rfl (by rw [hz6253])
    replace hS := hS.re 35 (u := .slice A6225 d6243.length c6226) (v := .slice A6225 zs6252.length c6226) rfl (by rw [hz6253])
    refine wpList_nil <| blk_n (then_n ?_)
    refine wp_region_list <| st1 hS (mv rfl) rfl fun a w hS => st1 hS (bin rfl rfl rfl) rfl fun a w hS => st1x (v := Value.int .i64) (x0 := (w64 (i6246 + (1 : Int)))) hS (asg rfl) rfl fun i6254 a w hz hS => ?_
    have hM := lt_to hz hM; clear hz
    refine wpList_nil <| then_n ?_
    exact hJ6255 _ _ ⟨zs6252, f6250, i6254, hS.to [0, 1] (by kernel_rfl) ⟨rfl, rfl, rfl, trivial⟩, hV6251, hM⟩
   ·refine wp_exit ?_
    refine then_ex (then_ex (blk_same (then_n ?_)))
    refine wp_seq <| wp_region_list <| st1 hS (mv rfl) rfl fun a w hS => st1 hS (mv rfl) rfl fun a w hS => st1 hS (asg rfl) rfl fun a w hS => st1 hS (asg rfl) rfl fun a w hS => wpList_nil <| then_n <| wp_ret ?_
    exact s_ret (rs := [0, 1]) hS rfl rfl (hret A6157 c6158 l_6220 f6221 A6225 c6226 d6243 f6244 w (wp_ok hM) hV6222 hV6245 (hS.st.pick [0, 1] (by kernel_rfl)))

theorem mortiseref06_Check_c {H : Imm} {F : List Frag} {w : World} {R : Ending → World → Prop} {kr : Int → Prop} {kp : Value → Prop} (hG : Gl H) (K : Nat) (l_6283 : List Int) (A6284 : Option Addr) (c6285 : Nat) (hr6286 : Rdl H [] F (ci .i64) A6284 l_6283) (hc6287 : l_6283.length ≤ c6285)
    (hS : St w H [] F) (hm : (mortiseref06_Check.m K l_6283).wp kr kp)
    (hret : ∀ (x6316 : Int) (w : World), kr x6316 → St w H [] F → R (.returned (.int .i64 x6316)) w) :
    Calls Tryd.prog 51 ⟨[.slice A6284 l_6283.length c6285]⟩ w R := by
 refine enter Tryd.func51 rfl Tryd.ntmps51 rfl hS fun a w hS => ?_
 have hM := hm; clear hm
 rw [mortiseref06_Check.m] at hM
 refine wp_seq <| wp_region_list <| st1 hS (asg rfl) rfl fun a w hS => wpList_nil <| then_n <| wp_seq <| wp_seq <| wp_region_list <| st1 hS (mv rfl) rfl fun a w hS => st1 hS (lenV rfl Tryd.runUnderlying45) rfl fun a w hS => st1 hS (bin rfl rfl rfl) rfl fun a w hS => wpList_nil <| then_n <| s_cond hS rfl hM (fun hb6288 hM => ?_) (fun hb6288 hM => ?_)
 ·refine wp_seq ?_
  refine wp_region_list <| st1 hS (asg rfl) rfl fun a w hS => wpList_nil <| then_n <| wp_ret <| then_ret ?_
  exact s_ret (rs := [2]) hS rfl rfl (hret (1 : Int) w (wp_ok hM) (hS.st.pick [] (by kernel_rfl)))
 ·refine wp_skip ?_
  refine then_n <| wp_seq <| wp_region_list <| st1 hS (asg rfl) rfl fun a w hS => wpList_nil <| then_n <| wp_seq <| wp_region_list <| st1 hS (asg rfl) rfl fun a w hS => wpList_nil <| then_n <| wp_seq <| wp_region_list <| st1 hS (asg rfl) rfl fun a w hS => wpList_nil <| then_n <| seq_joinJ (fun a w => ∃ (sum6305 : Int) (n_6306 : Int) (last6307 : Int), Ss 62 [] [(3, .int .i64 sum6305), (4, .int .i64 n_6306), (5, .int .i64 last6307)] H [] F a w ∧ (mortiseref06_Check.j2 K sum6305 n_6306 last6307).wp kr kp) (fun J6308 hJ6308 => ?_) ?_
  ·refine wp_seq ?_
   refine wp_region_list <| st1 hS (asg rfl) rfl fun a w hS => wpList_nil <| then_n <| wp_block <| s_loopJ (fun k6293 a w => ∃ (sum6289 : Int) (n_6290 : Int) (last6291 : Int) (i6292 : Int), Ss 62 [] [(0, .slice A6284 l_6283.length c6285), (3, .int .i64 sum6289), (4, .int .i64 n_6290), (5, .int .i64 last6291), (6, .int .i64 i6292)] H [] F a w ∧ (mortiseref06_Check.l1 K l_6283 k6293 sum6289 n_6290 last6291 i6292).wp kr kp) K ?_ ?_ ?_
   ·exact ⟨(0 : Int), (0 : Int), (0 : Int), (0 : Int), hS.to [] (by kernel_rfl) ⟨rfl, rfl, rfl, rfl, rfl, trivial⟩, hM⟩
   ·intro a w hI; obtain ⟨_, _, _, _, _, hM⟩ := hI; exact wp_fail hM
   ·intro k6293 a w hI J6304 hJ6304
    obtain ⟨sum6289, n_6290, last6291, i6292, hS, hM⟩ := hI
    rw [mortiseref06_Check.l1] at hM
    refine wp_seq <| wp_seq <| wp_region_list <| st1 hS (mv rfl) rfl fun a w hS => st1 hS (mv rfl) rfl fun a w hS => st1 hS (lenV rfl Tryd.runUnderlying45) rfl fun a w hS => st1 hS (bin rfl rfl rfl) rfl fun a w hS => wpList_nil <| then_n <| s_cond hS rfl hM (fun hb6294 hM => ?_) (fun hb6294 hM => ?_)
    ·refine wp_skip ?_
     refine then_n <| wp_seq <| wp_block <| wp_seq <| wp_seq <| wp_region_list <| st1 hS (mv rfl) rfl fun a w hS => st1 hS (mv rfl) rfl fun a w hS => ?_
     obtain ⟨hk6295, hM⟩ := wp_chk hM
     refine st1 hS (ixV rfl rfl Tryd.runUnderlying45 Tryd.sizeOf3 hr6286.wk (fun _ => rfl) rfl hk6295) rfl fun a w hS => st1 hS (ldV0 rfl hr6286.wk (fun _ => rfl) hk6295 rfl Tryd.isAgg3) rfl fun a w hS => st1 hS (bin rfl rfl rfl) rfl fun a w hS => st1 hS (mv rfl) rfl fun a w hS => g_op 5 false 21 (b := (decide ((rd l_6283 i6292) < (0 : Int)))) (r := (decide ((rd l_6283 i6292) > (15 : Int)))) hS rfl rfl rfl rfl rfl rfl rfl (fun hb a w hS K hK => ?_) rfl fun a w hS => ?_
     ·refine st1g hS rfl rfl rfl hb (mv rfl) rfl fun a w hS => ?_
      refine st1g hS rfl rfl rfl hb (mv rfl) rfl fun a w hS => st1g hS rfl rfl rfl hb (ixV rfl rfl Tryd.runUnderlying45 Tryd.sizeOf3 hr6286.wk (fun _ => rfl) rfl hk6295) rfl fun a w hS => st1g hS rfl rfl rfl hb (ldV0 rfl hr6286.wk (fun _ => rfl) hk6295 rfl Tryd.isAgg3) rfl fun a w hS => st1g hS rfl rfl rfl hb (bin rfl rfl rfl) rfl fun a w hS => ?_
      exact wpList_nil (hK _ _ (hS.up 5 rfl rfl))
     refine wpList_nil <| then_n <| s_cond hS rfl hM (fun hb6296 hM => ?_) (fun hb6296 hM => ?_)
     ·refine wp_seq ?_
      refine wp_region_list <| st1 hS (asg rfl) rfl fun a w hS => wpList_nil <| then_n <| wp_ret <| then_ret (blk_ret (then_ret (then_ret (blk_ret (then_ret ?_)))))
      exact s_ret (rs := [2]) hS rfl rfl (hret (1 : Int) w (wp_ok hM) (hS.st.pick [] (by kernel_rfl)))
     ·refine wp_skip ?_
      refine then_n <| wp_seq <| wp_region_list <| st1 hS (mv rfl) rfl fun a w hS => st1 hS (mv rfl) rfl fun a w hS => st1 hS (ixV rfl rfl Tryd.runUnderlying45 Tryd.sizeOf3 hr6286.wk (fun _ => rfl) rfl hk6295) rfl fun a w hS => st1 hS (ldV0 rfl hr6286.wk (fun _ => rfl) hk6295 rfl Tryd.isAgg3) rfl fun a w hS => st1 hS (bin rfl rfl rfl) rfl fun a w hS => wpList_nil <| then_n <| s_cond hS rfl hM (fun hb6297 hM => ?_) (fun hb6297 hM => ?_)
      ·refine wp_seq ?_
       refine wp_region_list <| st1 hS (mv rfl) rfl fun a w hS => st1 hS (mv rfl) rfl fun a w hS => st1 hS (mv rfl) rfl fun a w hS => st1 hS (ixV rfl rfl Tryd.runUnderlying45 Tryd.sizeOf3 hr6286.wk (fun _ => rfl) rfl hk6295) rfl fun a w hS => st1 hS (ldV0 rfl hr6286.wk (fun _ => rfl) hk6295 rfl Tryd.isAgg3) rfl fun a w hS => st1 hS (bin rfl rfl rfl) rfl fun a w hS => st1 hS (cvi rfl Tryd.runUnderlying3 Tryd.runUnderlying39) rfl fun a w hS => ?_
       obtain ⟨hk6298, hM⟩ := wp_chk hM
       refine st1 hS (shl rfl rfl hk6298) rfl fun a w hS => st1 hS (bin rfl rfl rfl) rfl fun a w hS => st1x (v := Value.int .i64) (x0 := (w64 (sum6289 + (ishl .i64 (1 : Int) (wr .u64 (w64 ((15 : Int) - (rd l_6283 i6292)))))))) hS (asg rfl) rfl fun sum6299 a w hz hS => ?_
       have hM := lt_to hz hM; clear hz
       refine wpList_nil <| then_n <| wp_seq <| wp_region_list <| st1 hS (mv rfl) rfl fun a w hS => st1 hS (bin rfl rfl rfl) rfl fun a w hS => st1x (v := Value.int .i64) (x0 := (w64 (n_6290 + (1 : Int)))) hS (asg rfl) rfl fun n_6300 a w hz hS => ?_
       have hM := lt_to hz hM; clear hz
       refine wpList_nil <| then_n <| wp_region_list <| st1 hS (mv rfl) rfl fun a w hS => st1 hS (mv rfl) rfl fun a w hS => st1 hS (ixV rfl rfl Tryd.runUnderlying45 Tryd.sizeOf3 hr6286.wk (fun _ => rfl) rfl hk6295) rfl fun a w hS => st1 hS (ldV0 rfl hr6286.wk (fun _ => rfl) hk6295 rfl Tryd.isAgg3) rfl fun a w hS => st1x (v := Value.int .i64) (x0 := (rd l_6283 i6292)) hS (asg rfl) rfl fun last6301 a w hz hS => ?_
       have hM := lt_to hz hM; clear hz
       refine wpList_nil <| blk_n (then_n ?_)
       refine wp_region_list <| st1 hS (mv rfl) rfl fun a w hS => st1 hS (bin rfl rfl rfl) rfl fun a w hS => st1x (v := Value.int .i64) (x0 := (w64 (i6292 + (1 : Int)))) hS (asg rfl) rfl fun i6302 a w hz hS => ?_
       have hM := lt_to hz hM; clear hz
       refine wpList_nil <| then_n ?_
       exact hJ6304 _ _ ⟨sum6299, n_6300, last6301, i6302, hS.to [] (by kernel_rfl) ⟨rfl, rfl, rfl, rfl, rfl, trivial⟩, hM⟩
      ·refine wp_skip ?_
       refine blk_n (then_n ?_)
       refine wp_region_list <| st1 hS (mv rfl) rfl fun a w hS => st1 hS (bin rfl rfl rfl) rfl fun a w hS => st1x (v := Value.int .i64) (x0 := (w64 (i6292 + (1 : Int)))) hS (asg rfl) rfl fun i6303 a w hz hS => ?_
       have hM := lt_to hz hM; clear hz
       refine wpList_nil <| then_n ?_
       exact hJ6304 _ _ ⟨sum6289, n_6290, last6291, i6303, hS.to [] (by kernel_rfl) ⟨rfl, rfl, rfl, rfl, rfl, trivial⟩, hM⟩
    ·refine wp_exit ?_
     refine then_ex (then_ex (blk_same (then_n ?_)))
     exact hJ6308 _ _ ⟨sum6289, n_6290, last6291, hS.to [] (by kernel_rfl) ⟨rfl, rfl, rfl, trivial⟩, hM⟩
  ·intro a w hI
   obtain ⟨sum6305, n_6306, last6307, hS, hM⟩ := hI
   rw [mortiseref06_Check.j2] at hM
   refine wp_seq <| wp_seq <| wp_region_list <| st1 hS (mv rfl) rfl fun a w hS => st1 hS (bin rfl rfl rfl) rfl fun a w hS => st1 hS (mv rfl) rfl fun a w hS => seg_cutJ (fun a w => ∃ (v6313 : Bool), Ss 62 [] [(3, .int .i64 sum6305), (57, .bool v6313)] H [] F a w ∧ (mortiseref06_Check.j4 K sum6305 v6313).wp kr kp) 7 (fun J6314 hJ6314 => ?_) ?_
   ·refine ifB (b := (n_6306 == (0 : Int))) hM (fun hb6309 hM => ?_) (fun hb6309 hM => ?_)
    ·replace hS := hS.re 49 (v := .bool true) rfl (congrArg Value.bool hb6309)
     replace hS := hS.re 50 (v := .bool true) rfl (congrArg Value.bool hb6309)
     refine skips 6 hS rfl fun a w hS => st1 hS (pk rfl rfl rfl) rfl fun a w hS => wpList_nil <| then_n ?_
     exact hJ6314 _ _ ⟨true, hS.to [] (by kernel_rfl) ⟨rfl, rfl, trivial⟩, hM⟩
    ·replace hS := hS.re 49 (v := .bool false) rfl (congrArg Value.bool hb6309)
     replace hS := hS.re 50 (v := .bool false) rfl (congrArg Value.bool hb6309)
     refine st1g hS rfl rfl rfl rfl (mv rfl) rfl fun a w hS => st1g hS rfl rfl rfl rfl (bin rfl rfl rfl) rfl fun a w hS => st1g hS rfl rfl rfl rfl (mv rfl) rfl fun a w hS => seg_cutJ (fun a w => ∃ (v6311 : Bool), Ss 62 [] [(3, .int .i64 sum6305), (50, .bool false), (56, .bool v6311)] H [] F a w ∧ (mortiseref06_Check.j3 K sum6305 v6311).wp kr kp) 3 (fun J6312 hJ6312 => ?_) ?_
     ·refine ifB (b := (n_6306 == (1 : Int))) hM (fun hb6310 hM => ?_) (fun hb6310 hM => ?_)
      ·replace hS := hS.re 52 (v := .bool true) rfl (congrArg Value.bool hb6310)
       replace hS := hS.re 53 (v := .bool true) rfl (congrArg Value.bool hb6310)
       refine st1g hS rfl rfl rfl rfl (mv rfl) rfl fun a w hS => st1g hS rfl rfl rfl rfl (bin rfl rfl rfl) rfl fun a w hS => st1g hS rfl rfl rfl rfl (pk rfl rfl rfl) rfl fun a w hS => wpList_nil <| then_n ?_
       exact hJ6312 _ _ ⟨(last6307 == (1 : Int)), hS.to [] (by kernel_rfl) ⟨rfl, rfl, rfl, trivial⟩, hM⟩
      ·replace hS := hS.re 52 (v := .bool false) rfl (congrArg Value.bool hb6310)
       replace hS := hS.re 53 (v := .bool false) rfl (congrArg Value.bool hb6310)
       refine skips 2 hS rfl fun a w hS => st1g hS rfl rfl rfl rfl (pk rfl rfl rfl) rfl fun a w hS => wpList_nil <| then_n ?_
       exact hJ6312 _ _ ⟨false, hS.to [] (by kernel_rfl) ⟨rfl, rfl, rfl, trivial⟩, hM⟩
     ·intro a w hI
      obtain ⟨v6311, hS, hM⟩ := hI
      rw [mortiseref06_Check.j3] at hM
      refine st1 hS (pk rfl rfl rfl) rfl fun a w hS => wpList_nil <| then_n ?_
      exact hJ6314 _ _ ⟨v6311, hS.to [] (by kernel_rfl) ⟨rfl, rfl, trivial⟩, hM⟩
   ·intro a w hI
    obtain ⟨v6313, hS, hM⟩ := hI
    rw [mortiseref06_Check.j4] at hM
    refine st1 hS (mv rfl) rfl fun a w hS => g_op 2 false 58 (b := v6313) (r := (sum6305 == (32768 : Int))) hS rfl rfl rfl rfl rfl rfl rfl (fun hb a w hS K hK => ?_) rfl fun a w hS => ?_
    ·refine st1g hS rfl rfl rfl hb (mv rfl) rfl fun a w hS => ?_
     refine st1g hS rfl rfl rfl hb (bin rfl rfl rfl) rfl fun a w hS => ?_
     exact wpList_nil (hK _ _ (hS.up 2 rfl rfl))
    refine wpList_nil <| then_n <| s_cond hS rfl hM (fun hb6315 hM => ?_) (fun hb6315 hM => ?_)
    ·refine wp_seq ?_
     refine wp_region_list <| st1 hS (asg rfl) rfl fun a w hS => wpList_nil <| then_n <| wp_ret <| then_ret ?_
     exact s_ret (rs := [2]) hS rfl rfl (hret (0 : Int) w (wp_ok hM) (hS.st.pick [] (by kernel_rfl)))
    ·refine wp_skip ?_
     refine then_n <| wp_seq <| wp_region_list <| st1 hS (asg rfl) rfl fun a w hS => wpList_nil <| then_n <| wp_ret ?_
     exact s_ret (rs := [2]) hS rfl rfl (hret (3 : Int) w (wp_ok hM) (hS.st.pick [] (by kernel_rfl)))

theorem mortiseref06_Codes_c {H : Imm} {F : List Frag} {w : World} {R : Ending → World → Prop} {kr : ((List Int) × Int) → Prop} {kp : Value → Prop} (hG : Gl H) (K : Nat) (l_6276 : List Int) (A6277 : Option Addr) (c6278 : Nat) (hr6279 : Rdl H [] F (ci .i64) A6277 l_6276) (hc6280 : l_6276.length ≤ c6278)
    (hS : St w H [] F) (hm : (mortiseref06_Codes.m K l_6276).wp kr kp)
    (hret : ∀ (A6424 : Option Addr) (c6425 : Nat) (x6426 : (List Int)) (f6427 : Frag) (x6429 : Int) (w : World), kr (x6426, x6429) → (Vec 3 (ci .i64) 1 A6424 x6426 c6425 f6427) → St w H [f6427] F → R (.returned (.tuple ⟨[.slice A6424 x6426.length c6425, .int .i64 x6429]⟩)) w) :
    Calls Tryd.prog 27 ⟨[.slice A6277 l_6276.length c6278]⟩ w R := by
 refine enter Tryd.func27 rfl Tryd.ntmps27 rfl hS fun a w hS => ?_
 have hM := hm; clear hm
 rw [mortiseref06_Codes.m] at hM
 refine wp_seq <| wp_region_list <| st1 hS (asg rfl) rfl fun a w hS => ?_
 obtain ⟨f6281, hV6282, hS⟩ := hS.nilV 3 (ci .i64) 1
 refine st1 hS (asg rfl) rfl fun a w hS => wpList_nil <| then_n <| wp_seq <| wp_region_list <| st1 hS (mv rfl) rfl fun a w hS => s_call hS rfl Tryd.call51 (mortiseref06_Check_c hG K l_6276 A6277 c6278 (hr6279.app _) hc6280 (hS.st.part 0 [0] (by kernel_rfl)) (wp_bind hM) (fun x6317 w hM  hst => s_back hS.ev hst.appF rfl fun hS => ?_))
 replace hS : Ss _ _ _ H [f6281] F _ _ := hS
 refine st1 hS (asg rfl) rfl fun a w hS => wpList_nil <| then_n <| wp_seq <| wp_seq <| wp_region_list <| st1 hS (mv rfl) rfl fun a w hS => st1 hS (bin rfl rfl rfl) rfl fun a w hS => wpList_nil <| then_n <| s_cond hS rfl hM (fun hb6318 hM => ?_) (fun hb6318 hM => ?_)
 ·refine wp_seq ?_
  refine wp_region_list <| st1 hS (mv rfl) rfl fun a w hS => st1 hS (asg rfl) rfl fun a w hS => ?_
  obtain ⟨f6319, hV6320, hS⟩ := hS.nilV 3 (ci .i64) 1
  refine st1 hS (asg rfl) rfl fun a w hS => wpList_nil <| then_n <| wp_ret <| then_ret ?_
  exact s_ret (rs := [2, 3]) hS rfl rfl (hret none (0) ([] : List Int) f6319 x6317 w (wp_ok hM) hV6320 (hS.st.pick [0] (by kernel_rfl)))
 ·refine wp_skip ?_
  refine then_n <| wp_seq <| wp_region_list <| st1 hS (mv rfl) rfl fun a w hS => st1 hS (lenV rfl Tryd.runUnderlying45) rfl fun a w hS => ?_
  obtain ⟨hk6321, hM⟩ := wp_chk hM
  refine mkS (g := (ci .i64)) (m := (l_6276.length : Int)) (0 : Int) hS rfl rfl (by simp) Tryd.runUnderlying45 X.el3 (fun w => ⟨_, Tryd.zeroValue3 w, rfl⟩) (fun _ => rfl) rfl rfl hk6321 rfl fun zs6326 w A6322 c6323 f6324 hz hV6325 hS => ?_
  have hM := lt_to hz hM; clear hz
  refine st1 hS (asg rfl) rfl fun a w hS => wpList_nil <| then_n <| wp_seq <| wp_region_list <| st1 hS (asg rfl) rfl fun a w hS => wpList_nil <| then_n <| wp_seq <| wp_seq <| wp_region_list <| st1 hS (asg rfl) rfl fun a w hS => wpList_nil <| then_n <| wp_block <| s_loopJ (fun k6381 a w => ∃ (out6376 : (List Int)) (f6377 : Frag) (code6379 : Int) (length6380 : Int), Ss 42 [] [(0, .slice A6277 l_6276.length c6278), (5, .slice A6322 out6376.length c6323), (6, .int .i64 code6379), (7, .int .i64 length6380)] H [f6377] F a w ∧ (Vec 3 (ci .i64) 1 A6322 out6376 c6323 f6377) ∧ (mortiseref06_Codes.l1 K l_6276 k6381 out6376 code6379 length6380).wp kr kp) K ?_ ?_ ?_
  ·exact ⟨zs6326, f6324, (0 : Int), (1 : Int), hS.to [0] (by kernel_rfl) ⟨rfl, rfl, rfl, rfl, trivial⟩, hV6325, hM⟩
  ·intro a w hI; obtain ⟨_, _, _, _, _, _, hM⟩ := hI; exact wp_fail hM
  ·intro k6381 a w hI J6423 hJ6423
   obtain ⟨out6376, f6377, code6379, length6380, hS, hV6378, hM⟩ := hI
   rw [mortiseref06_Codes.l1] at hM
   refine wp_seq <| wp_seq <| wp_region_list <| st1 hS (mv rfl) rfl fun a w hS => st1 hS (bin rfl rfl rfl) rfl fun a w hS => wpList_nil <| then_n <| s_cond hS rfl hM (fun hb6382 hM => ?_) (fun hb6382 hM => ?_)
   ·refine wp_skip ?_
    refine then_n <| wp_seq <| wp_block <| wp_seq <| wp_region_list <| st1 hS (mv rfl) rfl fun a w hS => st1 hS (bin rfl rfl rfl) rfl fun a w hS => st1x (v := Value.int .i64) (x0 := (w64 (code6379 * (2 : Int)))) hS (asg rfl) rfl fun code6383 a w hz hS => ?_
    have hM := lt_to hz hM; clear hz
    refine wpList_nil <| then_n <| wp_seq <| wp_region_list <| st1 hS (asg rfl) rfl fun a w hS => wpList_nil <| then_n <| wp_block <| s_loopJ (fun k6409 a w => ∃ (out6404 : (List Int)) (f6405 : Frag) (code6407 : Int) (i6408 : Int), Ss 42 [] [(0, .slice A6277 l_6276.length c6278), (5, .slice A6322 out6404.length c6323), (6, .int .i64 code6407), (7, .int .i64 length6380), (8, .int .i64 i6408)] H [f6405] F a w ∧ (Vec 3 (ci .i64) 1 A6322 out6404 c6323 f6405) ∧ (mortiseref06_Codes.l2 K (mortiseref06_Codes.l1 K l_6276 k6381) l_6276 length6380 k6409 out6404 code6407 i6408).wp kr kp) K ?_ ?_ ?_
    ·exact ⟨out6376, f6377, code6383, (0 : Int), hS.to [0] (by kernel_rfl) ⟨rfl, rfl, rfl, rfl, rfl, trivial⟩, hV6378, hM⟩
    ·intro a w hI; obtain ⟨_, _, _, _, _, _, hM⟩ := hI; exact wp_fail hM
    ·intro k6409 a w hI J6422 hJ6422
     obtain ⟨out6404, f6405, code6407, i6408, hS, hV6406, hM⟩ := hI
     rw [mortiseref06_Codes.l2] at hM
     refine wp_seq <| wp_seq <| wp_region_list <| st1 hS (mv rfl) rfl fun a w hS => st1 hS (mv rfl) rfl fun a w hS => st1 hS (lenV rfl Tryd.runUnderlying45) rfl fun a w hS => st1 hS (bin rfl rfl rfl) rfl fun a w hS => wpList_nil <| then_n <| s_cond hS rfl hM (fun hb6410 hM => ?_) (fun hb6410 hM => ?_)
     ·refine wp_skip ?_
      refine then_n <| wp_seq <| wp_block <| wp_seq <| wp_region_list <| st1 hS (mv rfl) rfl fun a w hS => st1 hS (mv rfl) rfl fun a w hS => ?_
      obtain ⟨hk6412, hM⟩ := wp_chk hM
      refine st1 hS (ixV rfl rfl Tryd.runUnderlying45 Tryd.sizeOf3 hr6279.wk (fun _ => rfl) rfl hk6412) rfl fun a w hS => st1 hS (ldV0 rfl hr6279.wk (fun _ => rfl) hk6412 rfl Tryd.isAgg3) rfl fun a w hS => st1 hS (mv rfl) rfl fun a w hS => st1 hS (bin rfl rfl rfl) rfl fun a w hS => wpList_nil <| then_n <| s_cond hS rfl hM (fun hb6413 hM => ?_) (fun hb6413 hM => ?_)
      ·refine wp_seq ?_
       refine wp_region_list <| st1 hS (mv rfl) rfl fun a w hS => st1 hS (mv rfl) rfl fun a w hS => st1 hS (mv rfl) rfl fun a w hS => ?_
       obtain ⟨hk6414, hM⟩ := wp_chk hM
       refine st1 hS (ixV rfl rfl Tryd.runUnderlying45 Tryd.sizeOf3 (hV6406.rd (i := 0) rfl) (fun _ => rfl) rfl hk6414) rfl fun a w hS => stV (i := i6408) (sz := 1) 0 0 (code6407) hS rfl rfl hV6406 rfl Tryd.sizeOf3 (one_t3 code6407) (fun _ => rfl) hk6414 rfl rfl fun zs6417 w f6415 hz hz6418 hV6416 hS => ?_
       have hM := lt_to hz hM; clear hz
       replace hS := hS.re 5 (u := .slice A6322 out6404.length c6323) (v := .slice A6322 zs6417.length c6323) rfl (by rw [hz6418])
       replace hS := hS.re 35 (u := .slice A6322 out6404.length c6323) (v := .slice A6322 zs6417.length c6323) rfl (by rw [hz6418])
       refine wpList_nil <| then_n <| wp_region_list <| st1 hS (mv rfl) rfl fun a w hS => st1 hS (bin rfl rfl rfl) rfl fun a w hS => st1x (v := Value.int .i64) (x0 := (w64 (code6407 + (1 : Int)))) hS (asg rfl) rfl fun code6419 a w hz hS => ?_
       have hM := lt_to hz hM; clear hz
       refine wpList_nil <| blk_n (then_n ?_)
       refine wp_region_list <| st1 hS (mv rfl) rfl fun a w hS => st1 hS (bin rfl rfl rfl) rfl fun a w hS => st1x (v := Value.int .i64) (x0 := (w64 (i6408 + (1 : Int)))) hS (asg rfl) rfl fun i6420 a w hz hS => ?_
       have hM := lt_to hz hM; clear hz
       refine wpList_nil <| then_n ?_
       exact hJ6422 _ _ ⟨zs6417, f6415, code6419, i6420, hS.to [0] (by kernel_rfl) ⟨rfl, rfl, rfl, rfl, rfl, trivial⟩, hV6416, hM⟩
      ·refine wp_skip ?_
       refine blk_n (then_n ?_)
       refine wp_region_list <| st1 hS (mv rfl) rfl fun a w hS => st1 hS (bin rfl rfl rfl) rfl fun a w hS => st1x (v := Value.int .i64) (x0 := (w64 (i6408 + (1 : Int)))) hS (asg rfl) rfl fun i6421 a w hz hS => ?_
       have hM := lt_to hz hM; clear hz
       refine wpList_nil <| then_n ?_
       exact hJ6422 _ _ ⟨out6404, f6405, code6407, i6421, hS.to [0] (by kernel_rfl) ⟨rfl, rfl, rfl, rfl, rfl, trivial⟩, hV6406, hM⟩
     ·refine wp_exit ?_
      refine then_ex (then_ex (blk_same (blk_n (then_n ?_))))
      refine wp_region_list <| st1 hS (mv rfl) rfl fun a w hS => st1 hS (bin rfl rfl rfl) rfl fun a w hS => st1x (v := Value.int .i64) (x0 := (w64 (length6380 + (1 : Int)))) hS (asg rfl) rfl fun length6411 a w hz hS => ?_
      have hM := lt_to hz hM; clear hz
      refine wpList_nil <| then_n ?_
      exact hJ6423 _ _ ⟨out6404, f6405, code6407, length6411, hS.to [0] (by kernel_rfl) ⟨rfl, rfl, rfl, rfl, trivial⟩, hV6406, hM⟩
   ·refine wp_exit ?_
    refine then_ex (then_ex (blk_same (then_n ?_)))
    refine wp_seq <| wp_region_list <| st1 hS (mv rfl) rfl fun a w hS => st1 hS (asg rfl) rfl fun a w hS => st1 hS (asg rfl) rfl fun a w hS => wpList_nil <| then_n <| wp_ret ?_
    exact s_ret (rs := [2, 3]) hS rfl rfl (hret A6322 c6323 out6376 f6377 (0 : Int) w (wp_ok hM) hV6378 (hS.st.pick [0] (by kernel_rfl)))

theorem mortiseref05_Writer_Put_c {H : Imm} {F : List Frag} {w : World} {R : Ending → World → Prop} {kr : (Int × (List Int)) → Prop} {kp : Value → Prop} (hG : Gl H) (K : Nat) (w_6447 : T_mortiseref05_Writer) (v6455 : Int) (n_6456 : Int) (b6448 : Nat) (f6449 : Frag) (A6451 : Option Addr) (c6452 : Nat) (f6453 : Frag) (hB6450 : Blk f6449 b6448 ([.slice A6451 w_6447.B_.length c6452]) 62) (hV6454 : Vec 5 (ci .u8) 1 A6451 w_6447.B_ c6452 f6453)
    (hS : St w H [f6449, f6453] F) (hm : (mortiseref05_Writer_Put.m K w_6447 v6455 n_6456).wp kr kp)
    (hret : ∀ (x6519 : Int) (A6520 : Option Addr) (c6521 : Nat) (b_6522 : (List Int)) (f6523 : Frag) (f6525 : Frag) (w : World), kr (x6519, b_6522) → (Vec 5 (ci .u8) 1 A6520 b_6522 c6521 f6523) → (Blk f6525 b6448 ([.slice A6520 b_6522.length c6521]) 62) → St w H [f6525, f6523] F → R (.returned (.int .i64 x6519)) w) :
    Calls Tryd.prog 28 ⟨[ptr b6448 0, .int .u32 v6455, .int .i64 n_6456]⟩ w R := by
 refine enter Tryd.func28 rfl Tryd.ntmps28 rfl hS fun a w hS => ?_
 have hM := hm; clear hm
 rw [mortiseref05_Writer_Put.m] at hM
 refine wp_seq <| wp_region_list <| st1 hS (asg rfl) rfl fun a w hS => wpList_nil <| then_n <| wp_seq <| wp_seq <| wp_region_list <| st1 hS (mv rfl) rfl fun a w hS => st1 hS (bin rfl rfl rfl) rfl fun a w hS => st1 hS (mv rfl) rfl fun a w hS => g_op 2 false 10 (b := (decide (n_6456 < (0 : Int)))) (r := (decide (n_6456 > (32 : Int)))) hS rfl rfl rfl rfl rfl rfl rfl (fun hb a w hS K hK => ?_) rfl fun a w hS => ?_
 ·refine st1g hS rfl rfl rfl hb (mv rfl) rfl fun a w hS => ?_
  refine st1g hS rfl rfl rfl hb (bin rfl rfl rfl) rfl fun a w hS => ?_
  exact wpList_nil (hK _ _ (hS.up 2 rfl rfl))
 refine st1 hS (mv rfl) rfl fun a w hS => seg_cutJ (fun a w => ∃ (v6463 : Bool), Ss 44 [] [(0, ptr b6448 0), (1, .int .u32 v6455), (2, .int .i64 n_6456), (24, .bool v6463)] H [f6449, f6453] F a w ∧ (mortiseref05_Writer_Put.j2 K w_6447 v6455 n_6456 v6463).wp kr kp) 10 (fun J6464 hJ6464 => ?_) ?_
 ·refine ifB (b := ((decide (n_6456 < (0 : Int))) || (decide (n_6456 > (32 : Int))))) hM (fun hb6457 hM => ?_) (fun hb6457 hM => ?_)
  ·replace hS := hS.re 13 (v := .bool true) rfl (congrArg Value.bool hb6457)
   replace hS := hS.re 14 (v := .bool true) rfl (congrArg Value.bool hb6457)
   refine skips 9 hS rfl fun a w hS => st1 hS (pk rfl rfl rfl) rfl fun a w hS => wpList_nil <| then_n ?_
   exact hJ6464 _ _ ⟨true, hS.to [0, 1] (by kernel_rfl) ⟨rfl, rfl, rfl, rfl, trivial⟩, hM⟩
  ·replace hS := hS.re 13 (v := .bool false) rfl (congrArg Value.bool hb6457)
   replace hS := hS.re 14 (v := .bool false) rfl (congrArg Value.bool hb6457)
   refine st1g hS rfl rfl rfl rfl (mv rfl) rfl fun a w hS => st1g hS rfl rfl rfl rfl (bin rfl rfl rfl) rfl fun a w hS => st1g hS rfl rfl rfl rfl (mv rfl) rfl fun a w hS => seg_cutJ (fun a w => ∃ (v6461 : Bool), Ss 44 [] [(0, ptr b6448 0), (1, .int .u32 v6455), (2, .int .i64 n_6456), (14, .bool false), (23, .bool v6461)] H [f6449, f6453] F a w ∧ (mortiseref05_Writer_Put.j1 K w_6447 v6455 n_6456 v6461).wp kr kp) 6 (fun J6462 hJ6462 => ?_) ?_
   ·refine ifB (b := (decide (n_6456 < (32 : Int)))) hM (fun hb6458 hM => ?_) (fun hb6458 hM => ?_)
    ·replace hS := hS.re 16 (v := .bool true) rfl (congrArg Value.bool hb6458)
     replace hS := hS.re 17 (v := .bool true) rfl (congrArg Value.bool hb6458)
     refine st1g hS rfl rfl rfl rfl (mv rfl) rfl fun a w hS => st1g hS rfl rfl rfl rfl (mv rfl) rfl fun a w hS => st1g hS rfl rfl rfl rfl (cvi rfl Tryd.runUnderlying3 Tryd.runUnderlying39) rfl fun a w hS => ?_
     obtain ⟨hk6460, hM⟩ := wp_chk hM
     refine st1g hS rfl rfl rfl rfl (shl rfl rfl hk6460) rfl fun a w hS => st1g hS rfl rfl rfl rfl (bin rfl rfl rfl) rfl fun a w hS => st1g hS rfl rfl rfl rfl (pk rfl rfl rfl) rfl fun a w hS => wpList_nil <| then_n ?_
     exact hJ6462 _ _ ⟨(decide (v6455 ≥ (ishl .u32 (1 : Int) (wr .u64 n_6456)))), hS.to [0, 1] (by kernel_rfl) ⟨rfl, rfl, rfl, rfl, rfl, trivial⟩, hM⟩
    ·replace hS := hS.re 16 (v := .bool false) rfl (congrArg Value.bool hb6458)
     replace hS := hS.re 17 (v := .bool false) rfl (congrArg Value.bool hb6458)
     refine skips 5 hS rfl fun a w hS => st1g hS rfl rfl rfl rfl (pk rfl rfl rfl) rfl fun a w hS => wpList_nil <| then_n ?_
     exact hJ6462 _ _ ⟨false, hS.to [0, 1] (by kernel_rfl) ⟨rfl, rfl, rfl, rfl, rfl, trivial⟩, hM⟩
   ·intro a w hI
    obtain ⟨v6461, hS, hM⟩ := hI
    rw [mortiseref05_Writer_Put.j1] at hM
    refine st1 hS (pk rfl rfl rfl) rfl fun a w hS => wpList_nil <| then_n ?_
    exact hJ6464 _ _ ⟨v6461, hS.to [0, 1] (by kernel_rfl) ⟨rfl, rfl, rfl, rfl, trivial⟩, hM⟩
 ·intro a w hI
  obtain ⟨v6463, hS, hM⟩ := hI
  rw [mortiseref05_Writer_Put.j2] at hM
  refine wpList_nil <| then_n <| s_cond hS rfl hM (fun hb6465 hM => ?_) (fun hb6465 hM => ?_)
  ·refine wp_seq ?_
   refine wp_region_list <| st1 hS (asg rfl) rfl fun a w hS => wpList_nil <| then_n <| wp_ret <| then_ret ?_
   exact s_ret (rs := [6]) hS rfl rfl (hret (1 : Int) A6451 c6452 w_6447.B_ f6453 f6449 w (wp_ok hM) hV6454 hB6450 (hS.st.pick [0, 1] (by kernel_rfl)))
  ·refine wp_skip ?_
   refine then_n <| wp_seq <| wp_seq <| wp_region_list <| st1 hS (asg rfl) rfl fun a w hS => wpList_nil <| then_n <| wp_block <| s_loopJ (fun k6502 a w => ∃ (A6493 : Option Addr) (c6494 : Nat) (b_6495 : (List Int)) (f6496 : Frag) (f6498 : Frag) (v6500 : Int) (i6501 : Int), Ss 44 [] [(0, ptr b6448 0), (1, .int .u32 v6500), (2, .int .i64 n_6456), (7, .int .i64 i6501)] H [f6498, f6496] F a w ∧ (Vec 5 (ci .u8) 1 A6493 b_6495 c6494 f6496) ∧ (Blk f6498 b6448 ([.slice A6493 b_6495.length c6494]) 62) ∧ (mortiseref05_Writer_Put.l3 K n_6456 k6502 b_6495 v6500 i6501).wp kr kp) K ?_ ?_ ?_
   ·exact ⟨A6451, c6452, w_6447.B_, f6453, f6449, v6455, (0 : Int), hS.to [0, 1] (by kernel_rfl) ⟨rfl, rfl, rfl, rfl, trivial⟩, hV6454, hB6450, hM⟩
   ·intro a w hI; obtain ⟨_, _, _, _, _, _, _, _, _, _, hM⟩ := hI; exact wp_fail hM
   ·intro k6502 a w hI J6518 hJ6518
    obtain ⟨A6493, c6494, b_6495, f6496, f6498, v6500, i6501, hS, hV6497, hB6499, hM⟩ := hI
    rw [mortiseref05_Writer_Put.l3] at hM
    refine wp_seq <| wp_seq <| wp_region_list <| st1 hS (mv rfl) rfl fun a w hS => st1 hS (mv rfl) rfl fun a w hS => st1 hS (bin rfl rfl rfl) rfl fun a w hS => wpList_nil <| then_n <| s_cond hS rfl hM (fun hb6503 hM => ?_) (fun hb6503 hM => ?_)
    ·refine wp_skip ?_
     refine then_n <| wp_seq <| wp_block <| wp_seq <| wp_region_list <| st1 hS (mv rfl) rfl fun a w hS => st1 hS (mv rfl) rfl fun a w hS => st1 hS (nck rfl) rfl fun a w hS => st1 hS (fad rfl Tryd.runUnderlying62 rfl Tryd.sizeOf38 rfl) rfl fun a w hS => st1 hS (ldb 0 rfl hB6499 rfl rfl Tryd.isAgg38) rfl fun a w hS => st1 hS (mv rfl) rfl fun a w hS => st1 hS (rem rfl rfl rfl) rfl fun a w hS => st1 hS (cvi rfl Tryd.runUnderlying53 Tryd.runUnderlying5) rfl fun a w hS => bsl (g := (ci .u8)) ([(wr .u8 (irem v6500 (2 : Int)))] : List Int) [.int .u8 (wr .u8 (irem v6500 (2 : Int)))] hS Tryd.runUnderlying38 Tryd.sizeOf5 X.el5 rfl rfl rfl (by simp [Value.cells]) rfl rfl rfl rfl rfl fun w A6504 c6505 f6506 hV6507 hS => ?_
     obtain ⟨hk6508, hM⟩ := wp_chk hM
     refine apV (ys := ([(wr .u8 (irem v6500 (2 : Int)))] : List Int)) 2 hS rfl rfl hV6497 rfl (hV6507.rd (i := 0) rfl) Tryd.runUnderlying38 Tryd.runUnderlying38 X.el5 (fun _ => rfl) rfl one_t5 hk6508 rfl fun zs6513 w A6509 c6510 f6511 hz hV6512 hS => ?_
     have hM := lt_to hz hM; clear hz
     refine st1 hS (nck rfl) rfl fun a w hS => st1 hS (fad rfl Tryd.runUnderlying62 rfl Tryd.sizeOf38 rfl) rfl fun a w hS => sto 1 ([.slice A6509 zs6513.length c6510]) hS rfl rfl hB6499 rfl rfl rfl rfl Tryd.sizeOf38 fun w f6514 hB6515 hS => wpList_nil <| then_n <| wp_region_list <| st1 hS (mv rfl) rfl fun a w hS => st1 hS (quo rfl rfl rfl) rfl fun a w hS => st1x (v := Value.int .u32) (x0 := (iquo .u32 v6500 (2 : Int))) hS (asg rfl) rfl fun v6516 a w hz hS => ?_
     have hM := lt_to hz hM; clear hz
     refine wpList_nil <| blk_n (then_n ?_)
     refine wp_region_list <| st1 hS (mv rfl) rfl fun a w hS => st1 hS (bin rfl rfl rfl) rfl fun a w hS => st1x (v := Value.int .i64) (x0 := (w64 (i6501 + (1 : Int)))) hS (asg rfl) rfl fun i6517 a w hz hS => ?_
     have hM := lt_to hz hM; clear hz
     refine wpList_nil <| then_n ?_
     exact hJ6518 _ _ ⟨A6509, c6510, zs6513, f6511, f6514, v6516, i6517, hS.to [1, 2] (by kernel_rfl) ⟨rfl, rfl, rfl, rfl, trivial⟩, hV6512, hB6515, hM⟩
    ·refine wp_exit ?_
     refine then_ex (then_ex (blk_same (then_n ?_)))
     refine wp_seq <| wp_region_list <| st1 hS (asg rfl) rfl fun a w hS => wpList_nil <| then_n <| wp_ret ?_
     exact s_ret (rs := [6]) hS rfl rfl (hret (0 : Int) A6493 c6494 b_6495 f6496 f6498 w (wp_ok hM) hV6497 hB6499 (hS.st.pick [0, 1] (by kernel_rfl)))

theorem mortiseref08_May_c {H : Imm} {F : List Frag} {w : World} {R : Ending → World → Prop} {kr : Bool → Prop} {kp : Value → Prop} (hG : Gl H) (K : Nat) (t6544 : T_api_Token)
    (hS : St w H [] F) (hm : (mortiseref08_May.m K t6544).wp kr kp)
    (hret : ∀ (x6551 : Bool) (w : World), kr x6551 → St w H [] F → R (.returned (.bool x6551)) w) :
    Calls Tryd.prog 15 ⟨[.agg ⟨[.int .u8 t6544.Lit_, .int .i64 t6544.Len_, .int .i64 t6544.Dist_]⟩]⟩ w R := by
 refine enter Tryd.func15 rfl Tryd.ntmps15 rfl hS fun a w hS => ?_
 have hM := hm; clear hm
 rw [mortiseref08_May.m] at hM
 refine wp_seq <| wp_region_list <| bx ([.int .u8 t6544.Lit_, .int .i64 t6544.Len_, .int .i64 t6544.Dist_]) hS rfl rfl rfl fun w b6545 f6546 hB6547 hS => st1 hS (asg rfl) rfl fun a w hS => wpList_nil <| then_n <| wp_seq <| wp_seq <| wp_region_list <| st1 hS (fad rfl Tryd.runUnderlying32 rfl Tryd.sizeOf3 rfl) rfl fun a w hS => st1 hS (ldb 0 rfl hB6547 rfl rfl Tryd.isAgg3) rfl fun a w hS => st1 hS (bin rfl rfl rfl) rfl fun a w hS => wpList_nil <| then_n <| s_cond hS rfl hM (fun hb6548 hM => ?_) (fun hb6548 hM => ?_)
 ·refine wp_seq ?_
  refine wp_region_list <| st1 hS (fad rfl Tryd.runUnderlying32 rfl Tryd.sizeOf3 rfl) rfl fun a w hS => st1 hS (ldb 0 rfl hB6547 rfl rfl Tryd.isAgg3) rfl fun a w hS => st1 hS (bin rfl rfl rfl) rfl fun a w hS => st1x (v := Value.bool) (x0 := (t6544.Len_ == (0 : Int))) hS (asg rfl) rfl fun v6549 a w hz hS => ?_
  have hM := lt_to hz hM; clear hz
  refine wpList_nil <| then_n <| wp_ret <| then_ret ?_
  exact s_ret (rs := [2]) hS rfl rfl (hret v6549 w (wp_ok hM) (hS.st.pick [] (by kernel_rfl)))
 ·refine wp_skip ?_
  refine then_n <| wp_seq <| wp_region_list <| st1 hS (fad rfl Tryd.runUnderlying32 rfl Tryd.sizeOf3 rfl) rfl fun a w hS => st1 hS (ldb 0 rfl hB6547 rfl rfl Tryd.isAgg3) rfl fun a w hS => st1 hS (bin rfl rfl rfl) rfl fun a w hS => st1 hS (mv rfl) rfl fun a w hS => g_op 3 true 12 (b := (decide (t6544.Dist_ ≥ (1 : Int)))) (r := (decide (t6544.Dist_ ≤ (32768 : Int)))) hS rfl rfl rfl rfl rfl rfl rfl (fun hb a w hS K hK => ?_) rfl fun a w hS => ?_
  ·refine st1g hS rfl rfl rfl hb (fad rfl Tryd.runUnderlying32 rfl Tryd.sizeOf3 rfl) rfl fun a w hS => ?_
   refine st1g hS rfl rfl rfl hb (ldb 0 rfl hB6547 rfl rfl Tryd.isAgg3) rfl fun a w hS => st1g hS rfl rfl rfl hb (bin rfl rfl rfl) rfl fun a w hS => ?_
   exact wpList_nil (hK _ _ (hS.up 3 rfl rfl))
  refine st1 hS (mv rfl) rfl fun a w hS => g_op 3 true 17 (b := ((decide (t6544.Dist_ ≥ (1 : Int))) && (decide (t6544.Dist_ ≤ (32768 : Int))))) (r := (decide (t6544.Len_ ≥ (3 : Int)))) hS rfl rfl rfl rfl rfl rfl rfl (fun hb a w hS K hK => ?_) rfl fun a w hS => ?_
  ·refine st1g hS rfl rfl rfl hb (fad rfl Tryd.runUnderlying32 rfl Tryd.sizeOf3 rfl) rfl fun a w hS => ?_
   refine st1g hS rfl rfl rfl hb (ldb 0 rfl hB6547 rfl rfl Tryd.isAgg3) rfl fun a w hS => st1g hS rfl rfl rfl hb (bin rfl rfl rfl) rfl fun a w hS => ?_
   exact wpList_nil (hK _ _ (hS.up 3 rfl rfl))
  refine st1 hS (mv rfl) rfl fun a w hS => g_op 3 true 22 (b := (((decide (t6544.Dist_ ≥ (1 : Int))) && (decide (t6544.Dist_ ≤ (32768 : Int)))) && (decide (t6544.Len_ ≥ (3 : Int))))) (r := (decide (t6544.Len_ ≤ (258 : Int)))) hS rfl rfl rfl rfl rfl rfl rfl (fun hb a w hS K hK => ?_) rfl fun a w hS => ?_
  ·refine st1g hS rfl rfl rfl hb (fad rfl Tryd.runUnderlying32 rfl Tryd.sizeOf3 rfl) rfl fun a w hS => ?_
   refine st1g hS rfl rfl rfl hb (ldb 0 rfl hB6547 rfl rfl Tryd.isAgg3) rfl fun a w hS => st1g hS rfl rfl rfl hb (bin rfl rfl rfl) rfl fun a w hS => ?_
   exact wpList_nil (hK _ _ (hS.up 3 rfl rfl))
  refine st1 hS (mv rfl) rfl fun a w hS => g_op 3 true 27 (b := ((((decide (t6544.Dist_ ≥ (1 : Int))) && (decide (t6544.Dist_ ≤ (32768 : Int)))) && (decide (t6544.Len_ ≥ (3 : Int)))) && (decide (t6544.Len_ ≤ (258 : Int))))) (r := (t6544.Lit_ == (0 : Int))) hS rfl rfl rfl rfl rfl rfl rfl (fun hb a w hS K hK => ?_) rfl fun a w hS => ?_
  ·refine st1g hS rfl rfl rfl hb (fad rfl Tryd.runUnderlying32 rfl Tryd.sizeOf5 rfl) rfl fun a w hS => ?_
   refine st1g hS rfl rfl rfl hb (ldb 0 rfl hB6547 rfl rfl Tryd.isAgg5) rfl fun a w hS => st1g hS rfl rfl rfl hb (bin rfl rfl rfl) rfl fun a w hS => ?_
   exact wpList_nil (hK _ _ (hS.up 3 rfl rfl))
  refine st1x (v := Value.bool) (x0 := (((((decide (t6544.Dist_ ≥ (1 : Int))) && (decide (t6544.Dist_ ≤ (32768 : Int)))) && (decide (t6544.Len_ ≥ (3 : Int)))) && (decide (t6544.Len_ ≤ (258 : Int)))) && (t6544.Lit_ == (0 : Int)))) hS (asg rfl) rfl fun v6550 a w hz hS => ?_
  have hM := lt_to hz hM; clear hz
  refine wpList_nil <| then_n <| wp_ret ?_
  exact s_ret (rs := [2]) hS rfl rfl (hret v6550 w (wp_ok hM) (hS.st.pick [] (by kernel_rfl)))

theorem mortiseref09_put_c {H : Imm} {F : List Frag} {w : World} {R : Ending → World → Prop} {kr : (List Int) → Prop} {kp : Value → Prop} (hG : Gl H) (K : Nat) (w_6555 : T_mortiseref05_Writer) (l_6563 : List Int) (codes6568 : List Int) (symbol6573 : Int) (b6556 : Nat) (f6557 : Frag) (A6559 : Option Addr) (c6560 : Nat) (f6561 : Frag) (A6564 : Option Addr) (c6565 : Nat) (A6569 : Option Addr) (c6570 : Nat) (hB6558 : Blk f6557 b6556 ([.slice A6559 w_6555.B_.length c6560]) 62) (hV6562 : Vec 5 (ci .u8) 1 A6559 w_6555.B_ c6560 f6561) (hr6566 : Rdl H [] F (ci .i64) A6564 l_6563) (hc6567 : l_6563.length ≤ c6565) (hr6571 : Rdl H [] F (ci .i64) A6569 codes6568) (hc6572 : codes6568.length ≤ c6570)
    (hS : St w H [f6557, f6561] F) (hm : (mortiseref09_put.m K w_6555 l_6563 codes6568 symbol6573).wp kr kp)
    (hret : ∀ (A6620 : Option Addr) (c6621 : Nat) (b_6622 : (List Int)) (f6623 : Frag) (f6625 : Frag) (w : World), kr b_6622 → (Vec 5 (ci .u8) 1 A6620 b_6622 c6621 f6623) → (Blk f6625 b6556 ([.slice A6620 b_6622.length c6621]) 62) → St w H [f6625, f6623] F → R (.returned (.tuple ⟨[]⟩)) w) :
    Calls Tryd.prog 29 ⟨[ptr b6556 0, .slice A6564 l_6563.length c6565, .slice A6569 codes6568.length c6570, .int .i64 symbol6573]⟩ w R := by
 refine enter Tryd.func29 rfl Tryd.ntmps29 rfl hS fun a w hS => ?_
 have hM := hm; clear hm
 rw [mortiseref09_put.m] at hM
 refine wp_seq <| wp_region_list <| st1 hS (mv rfl) rfl fun a w hS => st1 hS (mv rfl) rfl fun a w hS => ?_
 obtain ⟨hk6574, hM⟩ := wp_chk hM
 refine st1 hS (ixV rfl rfl Tryd.runUnderlying45 Tryd.sizeOf3 hr6566.wk (fun _ => rfl) rfl hk6574) rfl fun a w hS => st1 hS (ldV0 rfl hr6566.wk (fun _ => rfl) hk6574 rfl Tryd.isAgg3) rfl fun a w hS => st1 hS (bin rfl rfl rfl) rfl fun a w hS => st1x (v := Value.int .i64) (x0 := (w64 ((rd l_6563 symbol6573) - (1 : Int)))) hS (asg rfl) rfl fun b_6575 a w hz hS => ?_
 have hM := lt_to hz hM; clear hz
 refine wpList_nil <| then_n <| wp_block <| s_loopJ (fun k6606 a w => ∃ (A6598 : Option Addr) (c6599 : Nat) (b_6600 : (List Int)) (f6601 : Frag) (f6603 : Frag) (b_6605 : Int), Ss 29 [] [(0, ptr b6556 0), (2, .slice A6569 codes6568.length c6570), (3, .int .i64 symbol6573), (8, .int .i64 b_6605)] H [f6603, f6601] F a w ∧ (Vec 5 (ci .u8) 1 A6598 b_6600 c6599 f6601) ∧ (Blk f6603 b6556 ([.slice A6598 b_6600.length c6599]) 62) ∧ (mortiseref09_put.l1 K codes6568 symbol6573 k6606 b_6600 b_6605).wp kr kp) K ?_ ?_ ?_
 ·exact ⟨A6559, c6560, w_6555.B_, f6561, f6557, b_6575, hS.to [0, 1] (by kernel_rfl) ⟨rfl, rfl, rfl, rfl, trivial⟩, hV6562, hB6558, hM⟩
 ·intro a w hI; obtain ⟨_, _, _, _, _, _, _, _, _, hM⟩ := hI; exact wp_fail hM
 ·intro k6606 a w hI J6619 hJ6619
  obtain ⟨A6598, c6599, b_6600, f6601, f6603, b_6605, hS, hV6602, hB6604, hM⟩ := hI
  rw [mortiseref09_put.l1] at hM
  refine wp_seq <| wp_seq <| wp_region_list <| st1 hS (mv rfl) rfl fun a w hS => st1 hS (bin rfl rfl rfl) rfl fun a w hS => wpList_nil <| then_n <| s_cond hS rfl hM (fun hb6607 hM => ?_) (fun hb6607 hM => ?_)
  ·refine wp_skip ?_
   refine then_n <| wp_seq <| wp_block <| wp_region_list <| st1 hS (mv rfl) rfl fun a w hS => st1 hS (mv rfl) rfl fun a w hS => st1 hS (mv rfl) rfl fun a w hS => ?_
   obtain ⟨hk6608, hM⟩ := wp_chk hM
   refine st1 hS (ixV rfl rfl Tryd.runUnderlying45 Tryd.sizeOf3 hr6571.wk (fun _ => rfl) rfl hk6608) rfl fun a w hS => st1 hS (ldV0 rfl hr6571.wk (fun _ => rfl) hk6608 rfl Tryd.isAgg3) rfl fun a w hS => st1 hS (cvi rfl Tryd.runUnderlying3 Tryd.runUnderlying53) rfl fun a w hS => st1 hS (mv rfl) rfl fun a w hS => st1 hS (cvi rfl Tryd.runUnderlying3 Tryd.runUnderlying39) rfl fun a w hS => ?_
   obtain ⟨hk6609, hM⟩ := wp_chk hM
   refine st1 hS (shr rfl rfl hk6609) rfl fun a w hS => st1 hS (rem rfl rfl rfl) rfl fun a w hS => s_call hS rfl Tryd.call28 (mortiseref05_Writer_Put_c hG K (T_mortiseref05_Writer.mk b_6600) (irem (ishr .u32 (wr .u32 (rd codes6568 symbol6573)) (wr .u64 b_6605)) (2 : Int)) (1 : Int) b6556 f6603 A6598 c6599 f6601 hB6604 hV6602 (hS.st.part 2 [0, 1] (by kernel_rfl)) (wp_bind hM) (fun x6610 A6611 c6612 b_6613 f6614 f6615 w hM h6616 h6617 hst => s_back hS.ev hst.appF rfl fun hS => ?_))
   replace hS : Ss _ _ _ H [f6615, f6614] F _ _ := hS
   refine wpList_nil <| blk_n (then_n ?_)
   refine wp_region_list <| st1 hS (mv rfl) rfl fun a w hS => st1 hS (bin rfl rfl rfl) rfl fun a w hS => st1x (v := Value.int .i64) (x0 := (w64 (b_6605 - (1 : Int)))) hS (asg rfl) rfl fun b_6618 a w hz hS => ?_
   have hM := lt_to hz hM; clear hz
   refine wpList_nil <| then_n ?_
   exact hJ6619 _ _ ⟨A6611, c6612, b_6613, f6614, f6615, b_6618, hS.to [0, 1] (by kernel_rfl) ⟨rfl, rfl, rfl, rfl, trivial⟩, h6616, h6617, hM⟩
  ·refine wp_exit ?_
   refine then_ex (then_ex (blk_same ?_))
   exact s_end (rs := []) hS rfl rfl (hret A6598 c6599 b_6600 f6601 f6603 w (wp_ok hM) hV6602 hB6604 (hS.st.pick [0, 1] (by kernel_rfl)))

theorem mortiseref07_Length_c {H : Imm} {F : List Frag} {w : World} {R : Ending → World → Prop} {kr : (Int × Int) → Prop} {kp : Value → Prop} (hG : Gl H) (K : Nat) (symbol6641 : Int)
    (hS : St w H [] F) (hm : (mortiseref07_Length.m K symbol6641).wp kr kp)
    (hret : ∀ (x6649 : Int) (x6650 : Int) (w : World), kr (x6649, x6650) → St w H [] F → R (.returned (.tuple ⟨[.int .i64 x6649, .int .i64 x6650]⟩)) w) :
    Calls Tryd.prog 32 ⟨[.int .i64 symbol6641]⟩ w R := by
 refine enter Tryd.func32 rfl Tryd.ntmps32 rfl hS fun a w hS => ?_
 have hM := hm; clear hm
 rw [mortiseref07_Length.m] at hM
 refine wp_seq <| wp_region_list <| st1 hS (asg rfl) rfl fun a w hS => st1 hS (asg rfl) rfl fun a w hS => wpList_nil <| then_n <| wp_seq <| wp_seq <| wp_region_list <| st1 hS (mv rfl) rfl fun a w hS => st1 hS (bin rfl rfl rfl) rfl fun a w hS => wpList_nil <| then_n <| s_cond hS rfl hM (fun hb6642 hM => ?_) (fun hb6642 hM => ?_)
 ·refine wp_seq ?_
  refine wp_region_list <| st1 hS (asg rfl) rfl fun a w hS => st1 hS (asg rfl) rfl fun a w hS => wpList_nil <| then_n <| wp_ret <| then_ret ?_
  exact s_ret (rs := [2, 3]) hS rfl rfl (hret (258 : Int) (0 : Int) w (wp_ok hM) (hS.st.pick [] (by kernel_rfl)))
 ·refine wp_skip ?_
  refine then_n <| wp_seq <| wp_region_list <| st1 hS (mv rfl) rfl fun a w hS => st1 hS (bin rfl rfl rfl) rfl fun a w hS => st1x (v := Value.int .i64) (x0 := (w64 (symbol6641 - (257 : Int)))) hS (asg rfl) rfl fun k_6643 a w hz hS => ?_
  have hM := lt_to hz hM; clear hz
  refine wpList_nil <| then_n <| wp_seq <| wp_seq <| wp_region_list <| st1 hS (mv rfl) rfl fun a w hS => st1 hS (bin rfl rfl rfl) rfl fun a w hS => wpList_nil <| then_n <| s_cond hS rfl hM (fun hb6644 hM => ?_) (fun hb6644 hM => ?_)
  ·refine wp_seq ?_
   refine wp_region_list <| st1 hS (mv rfl) rfl fun a w hS => st1 hS (bin rfl rfl rfl) rfl fun a w hS => st1x (v := Value.int .i64) (x0 := (w64 ((3 : Int) + k_6643))) hS (asg rfl) rfl fun v6645 a w hz hS => ?_
   have hM := lt_to hz hM; clear hz
   refine st1 hS (asg rfl) rfl fun a w hS => wpList_nil <| then_n <| wp_ret <| then_ret ?_
   exact s_ret (rs := [2, 3]) hS rfl rfl (hret v6645 (0 : Int) w (wp_ok hM) (hS.st.pick [] (by kernel_rfl)))
  ·refine wp_skip ?_
   refine then_n <| wp_seq <| wp_region_list <| st1 hS (mv rfl) rfl fun a w hS => st1 hS (quo rfl rfl rfl) rfl fun a w hS => st1 hS (bin rfl rfl rfl) rfl fun a w hS => st1x (v := Value.int .i64) (x0 := (w64 ((iquo .i64 k_6643 (4 : Int)) - (1 : Int)))) hS (asg rfl) rfl fun more6646 a w hz hS => ?_
   have hM := lt_to hz hM; clear hz
   refine wpList_nil <| then_n <| wp_seq <| wp_region_list <| st1 hS (mv rfl) rfl fun a w hS => st1 hS (rem rfl rfl rfl) rfl fun a w hS => st1 hS (bin rfl rfl rfl) rfl fun a w hS => st1 hS (mv rfl) rfl fun a w hS => st1 hS (cvi rfl Tryd.runUnderlying3 Tryd.runUnderlying39) rfl fun a w hS => ?_
   obtain ⟨hk6647, hM⟩ := wp_chk hM
   refine st1 hS (shl rfl rfl hk6647) rfl fun a w hS => st1 hS (bin rfl rfl rfl) rfl fun a w hS => st1 hS (mv rfl) rfl fun a w hS => st1x (v := Value.int .i64) (x0 := (w64 ((3 : Int) + (ishl .i64 (w64 ((4 : Int) + (irem k_6643 (4 : Int)))) (wr .u64 more6646))))) hS (asg rfl) rfl fun v6648 a w hz hS => ?_
   have hM := lt_to hz hM; clear hz
   refine st1 hS (asg rfl) rfl fun a w hS => wpList_nil <| then_n <| wp_ret ?_
   exact s_ret (rs := [2, 3]) hS rfl rfl (hret v6648 more6646 w (wp_ok hM) (hS.st.pick [] (by kernel_rfl)))

theorem mortiseref08_LengthSymbol_c {H : Imm} {F : List Frag} {w : World} {R : Ending → World → Prop} {kr : Int → Prop} {kp : Value → Prop} (hG : Gl H) (K : Nat) (n_6635 : Int)
    (hS : St w H [] F) (hm : (mortiseref08_LengthSymbol.m K n_6635).wp kr kp)
    (hret : ∀ (x6657 : Int) (w : World), kr x6657 → St w H [] F → R (.returned (.int .i64 x6657)) w) :
    Calls Tryd.prog 30 ⟨[.int .i64 n_6635]⟩ w R := by
 refine enter Tryd.func30 rfl Tryd.ntmps30 rfl hS fun a w hS => ?_
 have hM := hm; clear hm
 rw [mortiseref08_LengthSymbol.m] at hM
 refine wp_seq <| wp_region_list <| st1 hS (asg rfl) rfl fun a w hS => wpList_nil <| then_n <| wp_seq <| wp_seq <| wp_region_list <| st1 hS (mv rfl) rfl fun a w hS => st1 hS (bin rfl rfl rfl) rfl fun a w hS => wpList_nil <| then_n <| s_cond hS rfl hM (fun hb6636 hM => ?_) (fun hb6636 hM => ?_)
 ·refine wp_seq ?_
  refine wp_region_list <| st1 hS (asg rfl) rfl fun a w hS => wpList_nil <| then_n <| wp_ret <| then_ret ?_
  exact s_ret (rs := [2]) hS rfl rfl (hret (285 : Int) w (wp_ok hM) (hS.st.pick [] (by kernel_rfl)))
 ·refine wp_skip ?_
  refine then_n <| wp_seq <| wp_region_list <| st1 hS (asg rfl) rfl fun a w hS => wpList_nil <| then_n <| wp_seq <| wp_seq <| wp_region_list <| st1 hS (asg rfl) rfl fun a w hS => wpList_nil <| then_n <| wp_block <| s_loopJ (fun k6639 a w => ∃ (out6637 : Int) (s6638 : Int), Ss 23 [] [(0, .int .i64 n_6635), (3, .int .i64 out6637), (4, .int .i64 s6638)] H [] F a w ∧ (mortiseref08_LengthSymbol.l1 K n_6635 k6639 out6637 s6638).wp kr kp) K ?_ ?_ ?_
  ·exact ⟨(257 : Int), (257 : Int), hS.to [] (by kernel_rfl) ⟨rfl, rfl, rfl, trivial⟩, hM⟩
  ·intro a w hI; obtain ⟨_, _, _, hM⟩ := hI; exact wp_fail hM
  ·intro k6639 a w hI J6656 hJ6656
   obtain ⟨out6637, s6638, hS, hM⟩ := hI
   rw [mortiseref08_LengthSymbol.l1] at hM
   refine wp_seq <| wp_seq <| wp_region_list <| st1 hS (mv rfl) rfl fun a w hS => st1 hS (bin rfl rfl rfl) rfl fun a w hS => wpList_nil <| then_n <| s_cond hS rfl hM (fun hb6640 hM => ?_) (fun hb6640 hM => ?_)
   ·refine wp_skip ?_
    refine then_n <| wp_seq <| wp_block <| wp_seq <| wp_region_list <| st1 hS (mv rfl) rfl fun a w hS => s_call hS rfl Tryd.call32 (mortiseref07_Length_c hG K s6638 (hS.st.part 0 [] (by kernel_rfl)) (wp_bind hM) (fun x6651 x6652 w hM  hst => s_back hS.ev hst.appF rfl fun hS => ?_))
    replace hS : Ss _ _ _ H [] F _ _ := hS
    refine st1 hS (mv rfl) rfl fun a w hS => st1 hS (ex rfl rfl) rfl fun a w hS => st1 hS (ex rfl rfl) rfl fun a w hS => st1 hS (asg rfl) rfl fun a w hS => st1 hS (asg rfl) rfl fun a w hS => wpList_nil <| then_n <| wp_seq <| wp_region_list <| st1 hS (mv rfl) rfl fun a w hS => st1 hS (mv rfl) rfl fun a w hS => st1 hS (bin rfl rfl rfl) rfl fun a w hS => wpList_nil <| then_n <| s_cond hS rfl hM (fun hb6653 hM => ?_) (fun hb6653 hM => ?_)
    ·refine wp_region_list ?_
     refine st1 hS (mv rfl) rfl fun a w hS => st1 hS (asg rfl) rfl fun a w hS => wpList_nil <| blk_n (then_n ?_)
     refine wp_region_list <| st1 hS (mv rfl) rfl fun a w hS => st1 hS (bin rfl rfl rfl) rfl fun a w hS => st1x (v := Value.int .i64) (x0 := (w64 (s6638 + (1 : Int)))) hS (asg rfl) rfl fun s6654 a w hz hS => ?_
     have hM := lt_to hz hM; clear hz
     refine wpList_nil <| then_n ?_
     exact hJ6656 _ _ ⟨s6638, s6654, hS.to [] (by kernel_rfl) ⟨rfl, rfl, rfl, trivial⟩, hM⟩
    ·refine wp_skip ?_
     refine blk_n (then_n ?_)
     refine wp_region_list <| st1 hS (mv rfl) rfl fun a w hS => st1 hS (bin rfl rfl rfl) rfl fun a w hS => st1x (v := Value.int .i64) (x0 := (w64 (s6638 + (1 : Int)))) hS (asg rfl) rfl fun s6655 a w hz hS => ?_
     have hM := lt_to hz hM; clear hz
     refine wpList_nil <| then_n ?_
     exact hJ6656 _ _ ⟨out6637, s6655, hS.to [] (by kernel_rfl) ⟨rfl, rfl, rfl, trivial⟩, hM⟩
   ·refine wp_exit ?_
    refine then_ex (then_ex (blk_same (then_n ?_)))
    refine wp_seq <| wp_region_list <| st1 hS (mv rfl) rfl fun a w hS => st1 hS (asg rfl) rfl fun a w hS => wpList_nil <| then_n <| wp_ret ?_
    exact s_ret (rs := [2]) hS rfl rfl (hret out6637 w (wp_ok hM) (hS.st.pick [] (by kernel_rfl)))

theorem mortiseref07_Distance_c {H : Imm} {F : List Frag} {w : World} {R : Ending → World → Prop} {kr : (Int × Int) → Prop} {kp : Value → Prop} (hG : Gl H) (K : Nat) (symbol6664 : Int)
    (hS : St w H [] F) (hm : (mortiseref07_Distance.m K symbol6664).wp kr kp)
    (hret : ∀ (x6670 : Int) (x6671 : Int) (w : World), kr (x6670, x6671) → St w H [] F → R (.returned (.tuple ⟨[.int .i64 x6670, .int .i64 x6671]⟩)) w) :
    Calls Tryd.prog 33 ⟨[.int .i64 symbol6664]⟩ w R := by
 refine enter Tryd.func33 rfl Tryd.ntmps33 rfl hS fun a w hS => ?_
 have hM := hm; clear hm
 rw [mortiseref07_Distance.m] at hM
 refine wp_seq <| wp_region_list <| st1 hS (asg rfl) rfl fun a w hS => st1 hS (asg rfl) rfl fun a w hS => wpList_nil <| then_n <| wp_seq <| wp_seq <| wp_region_list <| st1 hS (mv rfl) rfl fun a w hS => st1 hS (bin rfl rfl rfl) rfl fun a w hS => wpList_nil <| then_n <| s_cond hS rfl hM (fun hb6665 hM => ?_) (fun hb6665 hM => ?_)
 ·refine wp_seq ?_
  refine wp_region_list <| st1 hS (mv rfl) rfl fun a w hS => st1 hS (bin rfl rfl rfl) rfl fun a w hS => st1x (v := Value.int .i64) (x0 := (w64 ((1 : Int) + symbol6664))) hS (asg rfl) rfl fun v6666 a w hz hS => ?_
  have hM := lt_to hz hM; clear hz
  refine st1 hS (asg rfl) rfl fun a w hS => wpList_nil <| then_n <| wp_ret <| then_ret ?_
  exact s_ret (rs := [2, 3]) hS rfl rfl (hret v6666 (0 : Int) w (wp_ok hM) (hS.st.pick [] (by kernel_rfl)))
 ·refine wp_skip ?_
  refine then_n <| wp_seq <| wp_region_list <| st1 hS (mv rfl) rfl fun a w hS => st1 hS (quo rfl rfl rfl) rfl fun a w hS => st1 hS (bin rfl rfl rfl) rfl fun a w hS => st1x (v := Value.int .i64) (x0 := (w64 ((iquo .i64 symbol6664 (2 : Int)) - (1 : Int)))) hS (asg rfl) rfl fun more6667 a w hz hS => ?_
  have hM := lt_to hz hM; clear hz
  refine wpList_nil <| then_n <| wp_seq <| wp_region_list <| st1 hS (mv rfl) rfl fun a w hS => st1 hS (rem rfl rfl rfl) rfl fun a w hS => st1 hS (bin rfl rfl rfl) rfl fun a w hS => st1 hS (mv rfl) rfl fun a w hS => st1 hS (cvi rfl Tryd.runUnderlying3 Tryd.runUnderlying39) rfl fun a w hS => ?_
  obtain ⟨hk6668, hM⟩ := wp_chk hM
  refine st1 hS (shl rfl rfl hk6668) rfl fun a w hS => st1 hS (bin rfl rfl rfl) rfl fun a w hS => st1 hS (mv rfl) rfl fun a w hS => st1x (v := Value.int .i64) (x0 := (w64 ((1 : Int) + (ishl .i64 (w64 ((2 : Int) + (irem symbol6664 (2 : Int)))) (wr .u64 more6667))))) hS (asg rfl) rfl fun v6669 a w hz hS => ?_
  have hM := lt_to hz hM; clear hz
  refine st1 hS (asg rfl) rfl fun a w hS => wpList_nil <| then_n <| wp_ret ?_
  exact s_ret (rs := [2, 3]) hS rfl rfl (hret v6669 more6667 w (wp_ok hM) (hS.st.pick [] (by kernel_rfl)))

theorem mortiseref08_DistSymbol_c {H : Imm} {F : List Frag} {w : World} {R : Ending → World → Prop} {kr : Int → Prop} {kp : Value → Prop} (hG : Gl H) (K : Nat) (n_6659 : Int)
    (hS : St w H [] F) (hm : (mortiseref08_DistSymbol.m K n_6659).wp kr kp)
    (hret : ∀ (x6678 : Int) (w : World), kr x6678 → St w H [] F → R (.returned (.int .i64 x6678)) w) :
    Calls Tryd.prog 31 ⟨[.int .i64 n_6659]⟩ w R := by
 refine enter Tryd.func31 rfl Tryd.ntmps31 rfl hS fun a w hS => ?_
 have hM := hm; clear hm
 rw [mortiseref08_DistSymbol.m] at hM
 refine wp_seq <| wp_region_list <| st1 hS (asg rfl) rfl fun a w hS => wpList_nil <| then_n <| wp_seq <| wp_region_list <| st1 hS (asg rfl) rfl fun a w hS => wpList_nil <| then_n <| wp_seq <| wp_seq <| wp_region_list <| st1 hS (asg rfl) rfl fun a w hS => wpList_nil <| then_n <| wp_block <| s_loopJ (fun k6662 a w => ∃ (out6660 : Int) (s6661 : Int), Ss 21 [] [(0, .int .i64 n_6659), (3, .int .i64 out6660), (4, .int .i64 s6661)] H [] F a w ∧ (mortiseref08_DistSymbol.l1 K n_6659 k6662 out6660 s6661).wp kr kp) K ?_ ?_ ?_
 ·exact ⟨(0 : Int), (0 : Int), hS.to [] (by kernel_rfl) ⟨rfl, rfl, rfl, trivial⟩, hM⟩
 ·intro a w hI; obtain ⟨_, _, _, hM⟩ := hI; exact wp_fail hM
 ·intro k6662 a w hI J6677 hJ6677
  obtain ⟨out6660, s6661, hS, hM⟩ := hI
  rw [mortiseref08_DistSymbol.l1] at hM
  refine wp_seq <| wp_seq <| wp_region_list <| st1 hS (mv rfl) rfl fun a w hS => st1 hS (bin rfl rfl rfl) rfl fun a w hS => wpList_nil <| then_n <| s_cond hS rfl hM (fun hb6663 hM => ?_) (fun hb6663 hM => ?_)
  ·refine wp_skip ?_
   refine then_n <| wp_seq <| wp_block <| wp_seq <| wp_region_list <| st1 hS (mv rfl) rfl fun a w hS => s_call hS rfl Tryd.call33 (mortiseref07_Distance_c hG K s6661 (hS.st.part 0 [] (by kernel_rfl)) (wp_bind hM) (fun x6672 x6673 w hM  hst => s_back hS.ev hst.appF rfl fun hS => ?_))
   replace hS : Ss _ _ _ H [] F _ _ := hS
   refine st1 hS (mv rfl) rfl fun a w hS => st1 hS (ex rfl rfl) rfl fun a w hS => st1 hS (ex rfl rfl) rfl fun a w hS => st1 hS (asg rfl) rfl fun a w hS => st1 hS (asg rfl) rfl fun a w hS => wpList_nil <| then_n <| wp_seq <| wp_region_list <| st1 hS (mv rfl) rfl fun a w hS => st1 hS (mv rfl) rfl fun a w hS => st1 hS (bin rfl rfl rfl) rfl fun a w hS => wpList_nil <| then_n <| s_cond hS rfl hM (fun hb6674 hM => ?_) (fun hb6674 hM => ?_)
   ·refine wp_region_list ?_
    refine st1 hS (mv rfl) rfl fun a w hS => st1 hS (asg rfl) rfl fun a w hS => wpList_nil <| blk_n (then_n ?_)
    refine wp_region_list <| st1 hS (mv rfl) rfl fun a w hS => st1 hS (bin rfl rfl rfl) rfl fun a w hS => st1x (v := Value.int .i64) (x0 := (w64 (s6661 + (1 : Int)))) hS (asg rfl) rfl fun s6675 a w hz hS => ?_
    have hM := lt_to hz hM; clear hz
    refine wpList_nil <| then_n ?_
    exact hJ6677 _ _ ⟨s6661, s6675, hS.to [] (by kernel_rfl) ⟨rfl, rfl, rfl, trivial⟩, hM⟩
   ·refine wp_skip ?_
    refine blk_n (then_n ?_)
    refine wp_region_list <| st1 hS (mv rfl) rfl fun a w hS => st1 hS (bin rfl rfl rfl) rfl fun a w hS => st1x (v := Value.int .i64) (x0 := (w64 (s6661 + (1 : Int)))) hS (asg rfl) rfl fun s6676 a w hz hS => ?_
    have hM := lt_to hz hM; clear hz
    refine wpList_nil <| then_n ?_
    exact hJ6677 _ _ ⟨out6660, s6676, hS.to [] (by kernel_rfl) ⟨rfl, rfl, rfl, trivial⟩, hM⟩
  ·refine wp_exit ?_
   refine then_ex (then_ex (blk_same (then_n ?_)))
   refine wp_seq <| wp_region_list <| st1 hS (mv rfl) rfl fun a w hS => st1 hS (asg rfl) rfl fun a w hS => wpList_nil <| then_n <| wp_ret ?_
   exact s_ret (rs := [2]) hS rfl rfl (hret out6660 w (wp_ok hM) (hS.st.pick [] (by kernel_rfl)))

theorem mortiseref05_Writer_String_c {H : Imm} {F : List Frag} {w : World} {R : Ending → World → Prop} {kr : (List UInt8) → Prop} {kp : Value → Prop} (hG : Gl H) (K : Nat) (w_6803 : T_mortiseref05_Writer) (b6804 : Nat) (f6805 : Frag) (A6807 : Option Addr) (c6808 : Nat) (f6809 : Frag) (hB6806 : Blk f6805 b6804 ([.slice A6807 w_6803.B_.length c6808]) 62) (hV6810 : Vec 5 (ci .u8) 1 A6807 w_6803.B_ c6808 f6809)
    (hS : St w H [f6805, f6809] F) (hm : (mortiseref05_Writer_String.m K w_6803).wp kr kp)
    (hret : ∀ (x6855 : List UInt8) (w : World), kr x6855 → St w H [f6805, f6809] F → R (.returned (str x6855)) w) :
    Calls Tryd.prog 34 ⟨[ptr b6804 0]⟩ w R := by
 refine enter Tryd.func34 rfl Tryd.ntmps34 rfl hS fun a w hS => ?_
 have hM := hm; clear hm
 rw [mortiseref05_Writer_String.m] at hM
 refine wp_seq <| wp_region_list <| st1 hS (asg rfl) rfl fun a w hS => wpList_nil <| then_n <| wp_seq <| wp_region_list <| st1 hS (mv rfl) rfl fun a w hS => st1 hS (nck rfl) rfl fun a w hS => st1 hS (fad rfl Tryd.runUnderlying62 rfl Tryd.sizeOf38 rfl) rfl fun a w hS => st1 hS (ldb 0 rfl hB6806 rfl rfl Tryd.isAgg38) rfl fun a w hS => st1 hS (lenV rfl Tryd.runUnderlying38) rfl fun a w hS => st1 hS (bin rfl rfl rfl) rfl fun a w hS => st1 hS (quo rfl rfl rfl) rfl fun a w hS => ?_
 obtain ⟨hk6811, hM⟩ := wp_chk hM
 refine mkS (g := (ci .u8)) (m := (iquo .i64 (w64 ((w_6803.B_.length : Int) + (7 : Int))) (8 : Int))) (0 : Int) hS rfl rfl (by simp) Tryd.runUnderlying38 X.el5 (fun w => ⟨_, Tryd.zeroValue5 w, rfl⟩) (fun _ => rfl) rfl rfl hk6811 rfl fun zs6816 w A6812 c6813 f6814 hz hV6815 hS => ?_
 have hM := lt_to hz hM; clear hz
 refine st1 hS (asg rfl) rfl fun a w hS => wpList_nil <| then_n <| wp_seq <| wp_seq <| wp_region_list <| st1 hS (asg rfl) rfl fun a w hS => wpList_nil <| then_n <| wp_block <| s_loopJ (fun k6840 a w => ∃ (out6836 : (List Int)) (f6837 : Frag) (i6839 : Int), Ss 45 [] [(0, ptr b6804 0), (3, .slice A6812 out6836.length c6813), (4, .int .i64 i6839)] H [f6805, f6809, f6837] F a w ∧ (Vec 5 (ci .u8) 1 A6812 out6836 c6813 f6837) ∧ (mortiseref05_Writer_String.l1 K w_6803 k6840 out6836 i6839).wp kr kp) K ?_ ?_ ?_
 ·exact ⟨zs6816, f6814, (0 : Int), hS.to [1, 2, 0] (by kernel_rfl) ⟨rfl, rfl, rfl, trivial⟩, hV6815, hM⟩
 ·intro a w hI; obtain ⟨_, _, _, _, _, hM⟩ := hI; exact wp_fail hM
 ·intro k6840 a w hI J6854 hJ6854
  obtain ⟨out6836, f6837, i6839, hS, hV6838, hM⟩ := hI
  rw [mortiseref05_Writer_String.l1] at hM
  refine wp_seq <| wp_seq <| wp_region_list <| st1 hS (mv rfl) rfl fun a w hS => st1 hS (mv rfl) rfl fun a w hS => st1 hS (nck rfl) rfl fun a w hS => st1 hS (fad rfl Tryd.runUnderlying62 rfl Tryd.sizeOf38 rfl) rfl fun a w hS => st1 hS (ldb 0 rfl hB6806 rfl rfl Tryd.isAgg38) rfl fun a w hS => st1 hS (lenV rfl Tryd.runUnderlying38) rfl fun a w hS => st1 hS (bin rfl rfl rfl) rfl fun a w hS => wpList_nil <| then_n <| s_cond hS rfl hM (fun hb6841 hM => ?_) (fun hb6841 hM => ?_)
  ·refine wp_skip ?_
   refine then_n <| wp_seq <| wp_block ?_
   obtain ⟨hk6844, hM⟩ := wp_chk hM
   obtain ⟨hk6846, hM⟩ := wp_chk hM
   obtain ⟨hk6848, hM⟩ := wp_chk hM
   refine draw_begin (vals := [some (.slice A6812 out6836.length c6813), some (.int .i64 i6839), some (.int .i64 (iquo .i64 i6839 (8 : Int))), some (.slice A6812 out6836.length c6813), some (.int .i64 i6839), some (.int .i64 (iquo .i64 i6839 (8 : Int))), some (slp A6812 (Int.toNat (iquo .i64 i6839 (8 : Int)) * 1)), some (.int .u8 (rd out6836 (iquo .i64 i6839 (8 : Int)))), some (ptr b6804 0), some (ptr b6804 0), some (ptr b6804 0), some (.slice A6807 w_6803.B_.length c6808), some (.int .i64 i6839), some (slp A6807 (Int.toNat i6839 * 1)), some (.int .u8 (rd w_6803.B_ i6839)), some (.int .i64 i6839), some (.int .i64 (irem i6839 (8 : Int))), some (.int .u64 (wr .u64 (irem i6839 (8 : Int)))), some (.int .u8 (ishl .u8 (rd w_6803.B_ i6839) (wr .u64 (irem i6839 (8 : Int))))), some (.int .u8 (wr .u8 ((rd out6836 (iquo .i64 i6839 (8 : Int))) + (ishl .u8 (rd w_6803.B_ i6839) (wr .u64 (irem i6839 (8 : Int))))))), some (slp A6812 (Int.toNat (iquo .i64 i6839 (8 : Int)) * 1)), none]) hS mixed rfl ?_
   intro l w ho hcl hA hst
   refine phq hA hst ho hcl navail nmust 21 [0, 1, 2, 3, 4, 5, 6, 7, 8, 9, 10, 11, 12, 13, 14, 15, 16, 17, 18, 19, 20] rfl rfl rfl rfl rfl (by exact ⟨nR rfl rfl rfl rfl rfl (by exact ovE (mv rfl) rfl), nR rfl rfl rfl rfl rfl (by exact ovE (mv rfl) rfl), nR rfl rfl rfl rfl rfl (by exact ovE (quo rfl rfl rfl) rfl), nR rfl rfl rfl rfl rfl (by exact ovE (mv rfl) rfl), nR rfl rfl rfl rfl rfl (by exact ovE (mv rfl) rfl), nR rfl rfl rfl rfl rfl (by exact ovE (quo rfl rfl rfl) rfl), nR rfl rfl rfl rfl rfl (by exact ovE (ixV rfl rfl Tryd.runUnderlying38 Tryd.sizeOf5 (hV6838.rd (i := 2) rfl) (fun _ => rfl) rfl hk6844) rfl), nR rfl rfl rfl rfl rfl (by exact ovE (ldV0 rfl (hV6838.rd (i := 2) rfl) (fun _ => rfl) hk6844 rfl Tryd.isAgg5) rfl), nR rfl rfl rfl rfl rfl (by exact ovE (mv rfl) rfl), nR rfl rfl rfl rfl rfl (by exact ovE (nck rfl) rfl), nR rfl rfl rfl rfl rfl (by exact ovE (fad rfl Tryd.runUnderlying62 rfl Tryd.sizeOf38 rfl) rfl), nR rfl rfl rfl rfl rfl (by exact ovE (ldb 0 rfl hB6806 rfl rfl Tryd.isAgg38) rfl), nR rfl rfl rfl rfl rfl (by exact ovE (mv rfl) rfl), nR rfl rfl rfl rfl rfl (by exact ovE (ixV rfl rfl Tryd.runUnderlying38 Tryd.sizeOf5 (hV6810.rd (i := 1) rfl) (fun _ => rfl) rfl hk6846) rfl), nR rfl rfl rfl rfl rfl (by exact ovE (ldV0 rfl (hV6810.rd (i := 1) rfl) (fun _ => rfl) hk6846 rfl Tryd.isAgg5) rfl), nR rfl rfl rfl rfl rfl (by exact ovE (mv rfl) rfl), nR rfl rfl rfl rfl rfl (by exact ovE (rem rfl rfl rfl) rfl), nR rfl rfl rfl rfl rfl (by exact ovE (cvi rfl Tryd.runUnderlying3 Tryd.runUnderlying39) rfl), nR rfl rfl rfl rfl rfl (by exact ovE (shl rfl rfl hk6848) rfl), nR rfl rfl rfl rfl rfl (by exact ovE (bin rfl rfl rfl) rfl), nR rfl rfl rfl rfl rfl (by exact ovE (ixV rfl rfl Tryd.runUnderlying38 Tryd.sizeOf5 (hV6838.rd (i := 2) rfl) (fun _ => rfl) rfl hk6844) rfl), trivial⟩) fun D l a w ho hcl hav hpre hm hE hk hA hst => ?_
   have hS := (Ss.mk hE hst).env2 (e' := [(41, .int .u8 (wr .u8 ((rd out6836 (iquo .i64 i6839 (8 : Int))) + (ishl .u8 (rd w_6803.B_ i6839) (wr .u64 (irem i6839 (8 : Int))))))), (42, slp A6812 (Int.toNat (iquo .i64 i6839 (8 : Int)) * 1))]) ⟨rfl, rfl, trivial⟩
   refine op_of_nth rfl <| stV (i := (iquo .i64 i6839 (8 : Int))) (sz := 1) 2 0 ((wr .u8 ((rd out6836 (iquo .i64 i6839 (8 : Int))) + (ishl .u8 (rd w_6803.B_ i6839) (wr .u64 (irem i6839 (8 : Int))))))) hS rfl rfl hV6838 rfl Tryd.sizeOf5 (one_t5 (wr .u8 ((rd out6836 (iquo .i64 i6839 (8 : Int))) + (ishl .u8 (rd w_6803.B_ i6839) (wr .u64 (irem i6839 (8 : Int))))))) (fun _ => rfl) hk6844 rfl rfl fun zs6851 w f6849 hz hz6852 hV6850 hS => ?_
   have hM := lt_to hz hM; clear hz
   refine wpList_nil (then_n ?_)
   replace hst := hS.st
   obtain ⟨hcl, hmust, hav2, hA⟩ := dnN (vals' := [some (.slice A6812 out6836.length c6813), some (.int .i64 i6839), some (.int .i64 (iquo .i64 i6839 (8 : Int))), some (.slice A6812 out6836.length c6813), some (.int .i64 i6839), some (.int .i64 (iquo .i64 i6839 (8 : Int))), some (slp A6812 (Int.toNat (iquo .i64 i6839 (8 : Int)) * 1)), some (.int .u8 (rd out6836 (iquo .i64 i6839 (8 : Int)))), some (ptr b6804 0), some (ptr b6804 0), some (ptr b6804 0), some (.slice A6807 w_6803.B_.length c6808), some (.int .i64 i6839), some (slp A6807 (Int.toNat i6839 * 1)), some (.int .u8 (rd w_6803.B_ i6839)), some (.int .i64 i6839), some (.int .i64 (irem i6839 (8 : Int))), some (.int .u64 (wr .u64 (irem i6839 (8 : Int)))), some (.int .u8 (ishl .u8 (rd w_6803.B_ i6839) (wr .u64 (irem i6839 (8 : Int))))), some (.int .u8 (wr .u8 ((rd out6836 (iquo .i64 i6839 (8 : Int))) + (ishl .u8 (rd w_6803.B_ i6839) (wr .u64 (irem i6839 (8 : Int))))))), some (slp A6812 (Int.toNat (iquo .i64 i6839 (8 : Int)) * 1)), some undef]) 21 [(0, 21), (1, 21), (2, 21), (3, 21), (4, 21), (5, 21), (6, 21), (7, 21), (8, 21), (9, 21), (10, 21), (11, 21), (12, 21), (13, 21), (14, 21), (15, 21), (16, 21), (17, 21), (18, 21), (19, 21), (20, 21)] hA hcl hav hm hpre rfl rfl rfl rfl rfl
   clear hm hav
   refine phqE hA hst ho hcl hmust [] rfl rfl rfl trivial fun a w hS => ?_
   replace hS := hS.env2 (e' := [(0, ptr b6804 0), (3, .slice A6812 zs6851.length c6813), (4, .int .i64 i6839)]) ⟨rfl, (relk (u := .slice A6812 out6836.length c6813) rfl (by rw [hz6852])), rfl, trivial⟩
   refine blk_n (then_n ?_)
   refine wp_region_list <| st1 hS (mv rfl) rfl fun a w hS => st1 hS (bin rfl rfl rfl) rfl fun a w hS => st1x (v := Value.int .i64) (x0 := (w64 (i6839 + (1 : Int)))) hS (asg rfl) rfl fun i6853 a w hz hS => ?_
   have hM := lt_to hz hM; clear hz
   refine wpList_nil <| then_n ?_
   exact hJ6854 _ _ ⟨zs6851, f6849, i6853, hS.to [0, 1, 2] (by kernel_rfl) ⟨rfl, rfl, rfl, trivial⟩, hV6850, hM⟩
  ·refine wp_exit ?_
   refine then_ex (then_ex (blk_same (then_n ?_)))
   refine wp_seq <| wp_region_list <| st1 hS (mv rfl) rfl fun a w hS => st1 hS (cbs rfl Tryd.runUnderlying38 Tryd.runUnderlying5 Tryd.runUnderlying9 (hV6838.rd (i := 2) rfl)) rfl fun a w hS => st1x (v := str) (x0 := (out6836.map tob)) hS (asg rfl) rfl fun v6842 a w hz hS => ?_
   have hM := lt_to hz hM; clear hz
   refine wpList_nil <| then_n <| wp_ret ?_
   exact s_ret (rs := [2]) hS rfl rfl (hret v6842 w (wp_ok hM) (hS.st.pick [0, 1] (by kernel_rfl)))

theorem mortiseref09_Fixed_c {H : Imm} {F : List Frag} {w : World} {R : Ending → World → Prop} {kr : ((List UInt8) × Int) → Prop} {kp : Value → Prop} (hG : Gl H) (K : Nat) (tokens6147 : List T_api_Token) (A6148 : Option Addr) (c6149 : Nat) (hr6150 : Rdl H [] F T_api_Token.cells A6148 tokens6147) (hc6151 : tokens6147.length ≤ c6149)
    (hS : St w H [] F) (hm : (mortiseref09_Fixed.m K tokens6147).wp kr kp)
    (hret : ∀ (x6857 : List UInt8) (x6858 : Int) (w : World), kr (x6857, x6858) → St w H [] F → R (.returned (.tuple ⟨[str x6857, .int .i64 x6858]⟩)) w) :
    Calls Tryd.prog 13 ⟨[.slice A6148 tokens6147.length c6149]⟩ w R := by
 refine enter Tryd.func13 rfl Tryd.ntmps13 rfl hS fun a w hS => ?_
 have hM := hm; clear hm
 rw [mortiseref09_Fixed.m] at hM
 refine wp_seq <| wp_region_list <| st1 hS (asg rfl) rfl fun a w hS => st1 hS (asg rfl) rfl fun a w hS => wpList_nil <| then_n <| wp_seq <| wp_region_list <| s_call hS rfl Tryd.call26 (mortiseref07_Fixed_c hG K  (hS.st.part 0 [] (by kernel_rfl)) (wp_bind hM) (fun A6266 c6267 x6268 f6269 A6270 c6271 x6272 f6273 w hM h6274 h6275 hst => s_back hS.ev hst.appF rfl fun hS => ?_))
 replace hS : Ss _ _ _ H [f6269, f6273] F _ _ := hS
 refine st1 hS (mv rfl) rfl fun a w hS => st1 hS (ex rfl rfl) rfl fun a w hS => st1 hS (ex rfl rfl) rfl fun a w hS => st1 hS (asg rfl) rfl fun a w hS => st1 hS (asg rfl) rfl fun a w hS => wpList_nil <| then_n <| wp_seq <| wp_region_list <| st1 hS (mv rfl) rfl fun a w hS => s_call hS rfl Tryd.call27 (mortiseref06_Codes_c hG K x6268 A6266 c6267 (h6274.rdF (i := 0) rfl) (h6274.cap (fun _ => rfl) rfl) (hS.st.part 0 [0, 1] (by kernel_rfl)) (wp_bind hM) (fun A6430 c6431 x6432 f6433 x6434 w hM h6435 hst => s_back hS.ev hst.appF rfl fun hS => ?_))
 replace hS : Ss _ _ _ H [f6433, f6269, f6273] F _ _ := hS
 refine st1 hS (mv rfl) rfl fun a w hS => st1 hS (ex rfl rfl) rfl fun a w hS => st1 hS (ex rfl rfl) rfl fun a w hS => st1 hS (asg rfl) rfl fun a w hS => st1 hS (asg rfl) rfl fun a w hS => wpList_nil <| then_n <| wp_seq <| wp_region_list <| st1 hS (mv rfl) rfl fun a w hS => s_call hS rfl Tryd.call27 (mortiseref06_Codes_c hG K x6272 A6270 c6271 (h6275.rdF (i := 2) rfl) (h6275.cap (fun _ => rfl) rfl) (hS.st.part 0 [0, 1, 2] (by kernel_rfl)) (wp_bind hM) (fun A6436 c6437 x6438 f6439 x6440 w hM h6441 hst => s_back hS.ev hst.appF rfl fun hS => ?_))
 replace hS : Ss _ _ _ H [f6439, f6433, f6269, f6273] F _ _ := hS
 refine st1 hS (mv rfl) rfl fun a w hS => st1 hS (ex rfl rfl) rfl fun a w hS => st1 hS (ex rfl rfl) rfl fun a w hS => st1 hS (asg rfl) rfl fun a w hS => st1 hS (asg rfl) rfl fun a w hS => wpList_nil <| then_n <| wp_seq <| wp_region_list <| st1 hS (bld ([.slice none 0 0]) [(0, 1)] Tryd.zeroValue62 Tryd.runUnderlying62 (by intro w; simp [Tryd.sizeOf38]) rfl rfl) rfl fun a w hS => bx ([.slice none 0 0]) hS rfl rfl rfl fun w b6442 f6443 hB6444 hS => ?_
 obtain ⟨f6445, hV6446, hS⟩ := hS.nilV 5 (ci .u8) 1
 refine st1 hS (asg rfl) rfl fun a w hS => wpList_nil <| then_n <| wp_seq <| wp_region_list <| st1 hS (mv rfl) rfl fun a w hS => s_call hS rfl Tryd.call28 (mortiseref05_Writer_Put_c hG K (T_mortiseref05_Writer.mk ([] : List Int)) (3 : Int) (3 : Int) b6442 f6443 none (0) f6445 hB6444 hV6446 (hS.st.part 2 [1, 0, 2, 3, 4, 5] (by kernel_rfl)) (wp_bind hM) (fun x6527 A6528 c6529 b_6530 f6531 f6532 w hM h6533 h6534 hst => s_back hS.ev hst.appF rfl fun hS => ?_))
 replace hS : Ss _ _ _ H [f6532, f6531, f6439, f6433, f6269, f6273] F _ _ := hS
 refine wpList_nil <| then_n <| seq_joinJ (fun a w => ∃ (A6788 : Option Addr) (c6789 : Nat) (b_6790 : (List Int)) (f6791 : Frag) (f6793 : Frag), Ss 110 [] [(4, .slice A6266 x6268.length c6267), (6, .slice A6430 x6432.length c6431), (10, ptr b6442 0)] H [f6269, f6433, f6793, f6791] F a w ∧ (Vec 5 (ci .u8) 1 A6788 b_6790 c6789 f6791) ∧ (Blk f6793 b6442 ([.slice A6788 b_6790.length c6789]) 62) ∧ (mortiseref09_Fixed.j2 K x6268 x6432 b_6790).wp kr kp) (fun J6795 hJ6795 => ?_) ?_
 ·refine wp_seq ?_
  refine wp_region_list <| st1 hS (asg rfl) rfl fun a w hS => wpList_nil <| then_n <| wp_block <| s_loopJ (fun k6731 a w => ∃ (A6723 : Option Addr) (c6724 : Nat) (b_6725 : (List Int)) (f6726 : Frag) (f6728 : Frag) (i6730 : Int), Ss 110 [] [(0, .slice A6148 tokens6147.length c6149), (4, .slice A6266 x6268.length c6267), (5, .slice A6270 x6272.length c6271), (6, .slice A6430 x6432.length c6431), (8, .slice A6436 x6438.length c6437), (10, ptr b6442 0), (11, .int .i64 i6730)] H [f6269, f6273, f6433, f6439, f6728, f6726] F a w ∧ (Vec 5 (ci .u8) 1 A6723 b_6725 c6724 f6726) ∧ (Blk f6728 b6442 ([.slice A6723 b_6725.length c6724]) 62) ∧ (mortiseref09_Fixed.l1 K tokens6147 x6268 x6272 x6432 x6438 k6731 b_6725 i6730).wp kr kp) K ?_ ?_ ?_
  ·exact ⟨A6528, c6529, b_6530, f6531, f6532, (0 : Int), hS.to [4, 5, 3, 2, 0, 1] (by kernel_rfl) ⟨rfl, rfl, rfl, rfl, rfl, rfl, rfl, trivial⟩, h6533, h6534, hM⟩
  ·intro a w hI; obtain ⟨_, _, _, _, _, _, _, _, _, hM⟩ := hI; exact wp_fail hM
  ·intro k6731 a w hI J6787 hJ6787
   obtain ⟨A6723, c6724, b_6725, f6726, f6728, i6730, hS, hV6727, hB6729, hM⟩ := hI
   rw [mortiseref09_Fixed.l1] at hM
   refine wp_seq <| wp_seq <| wp_region_list <| st1 hS (mv rfl) rfl fun a w hS => st1 hS (mv rfl) rfl fun a w hS => st1 hS (lenV rfl Tryd.runUnderlying25) rfl fun a w hS => st1 hS (bin rfl rfl rfl) rfl fun a w hS => wpList_nil <| then_n <| s_cond hS rfl hM (fun hb6732 hM => ?_) (fun hb6732 hM => ?_)
   ·refine wp_skip ?_
    refine then_n <| wp_seq <| wp_block <| wp_seq <| wp_region_list <| st1 hS (mv rfl) rfl fun a w hS => st1 hS (mv rfl) rfl fun a w hS => ?_
    obtain ⟨hk6733, hM⟩ := wp_chk hM
    refine st1 hS (ixV rfl rfl Tryd.runUnderlying25 Tryd.sizeOf32 hr6150.wk (fun _ => rfl) rfl hk6733) rfl fun a w hS => st1 hS (ldVA rfl hr6150.wk (fun _ => rfl) hk6733 Tryd.isAgg32 Tryd.sizeOf32 rfl) rfl fun a w hS => alc ([.int .u8 (0 : Int), .int .i64 (0 : Int), .int .i64 (0 : Int)]) hS Tryd.zeroValue32 rfl rfl fun w b6734 f6735 hB6736 hS => stB 0 ([.int .u8 ((rd tokens6147 i6730).Lit_), .int .i64 ((rd tokens6147 i6730).Len_), .int .i64 ((rd tokens6147 i6730).Dist_)]) ([.int .u8 ((rd tokens6147 i6730).Lit_), .int .i64 ((rd tokens6147 i6730).Len_), .int .i64 ((rd tokens6147 i6730).Dist_)]) hS rfl rfl hB6736 rfl rfl Tryd.sizeOf32 (by simp [Value.oneCell']) (Nat.le_of_ble_eq_true rfl) rfl fun w f6737 hB6738 hS => wpList_nil <| then_n <| wp_seq <| wp_region_list <| st1 hS (ldbA 0 rfl hB6738 rfl ([.int .u8 ((rd tokens6147 i6730).Lit_), .int .i64 ((rd tokens6147 i6730).Len_), .int .i64 ((rd tokens6147 i6730).Dist_)]) rfl rfl Tryd.isAgg32 Tryd.sizeOf32) rfl fun a w hS => s_call hS rfl Tryd.call15 (mortiseref08_May_c hG K (T_api_Token.mk ((rd tokens6147 i6730).Lit_) ((rd tokens6147 i6730).Len_) ((rd tokens6147 i6730).Dist_)) (hS.st.part 0 [0, 1, 2, 3, 4, 5, 6] (by kernel_rfl)) (wp_bind hM) (fun x6739 w hM  hst => s_back hS.ev hst.appF rfl fun hS => ?_))
    replace hS : Ss _ _ _ H [f6737, f6269, f6273, f6433, f6439, f6728, f6726] F _ _ := hS
    refine st1 hS (asg rfl) rfl fun a w hS => wpList_nil <| then_n <| wp_seq <| wp_seq <| wp_region_list <| st1 hS (mv rfl) rfl fun a w hS => st1 hS (un rfl rfl) rfl fun a w hS => wpList_nil <| then_n <| s_cond hS rfl hM (fun hb6740 hM => ?_) (fun hb6740 hM => ?_)
    ·refine wp_seq ?_
     refine wp_region_list <| st1 hS (asg rfl) rfl fun a w hS => st1 hS (asg rfl) rfl fun a w hS => wpList_nil <| then_n <| wp_ret <| then_ret (blk_ret (then_ret (then_ret (blk_ret (then_ret ?_)))))
     exact s_ret (rs := [2, 3]) hS rfl rfl (hret ([] : List UInt8) (1 : Int) w (wp_ok hM) (hS.st.pick [] (by kernel_rfl)))
    ·refine wp_skip ?_
     refine then_n <| wp_seq <| wp_seq <| wp_region_list <| st1 hS (fad rfl Tryd.runUnderlying32 rfl Tryd.sizeOf3 rfl) rfl fun a w hS => st1 hS (ldb 0 rfl hB6738 rfl rfl Tryd.isAgg3) rfl fun a w hS => st1 hS (bin rfl rfl rfl) rfl fun a w hS => wpList_nil <| then_n <| s_cond hS rfl hM (fun hb6741 hM => ?_) (fun hb6741 hM => ?_)
     ·refine wp_seq ?_
      refine wp_region_list <| st1 hS (mv rfl) rfl fun a w hS => st1 hS (mv rfl) rfl fun a w hS => st1 hS (mv rfl) rfl fun a w hS => st1 hS (fad rfl Tryd.runUnderlying32 rfl Tryd.sizeOf5 rfl) rfl fun a w hS => st1 hS (ldb 0 rfl hB6738 rfl rfl Tryd.isAgg5) rfl fun a w hS => st1 hS (cvi rfl Tryd.runUnderlying5 Tryd.runUnderlying3) rfl fun a w hS => s_call hS rfl Tryd.call29 (mortiseref09_put_c hG K (T_mortiseref05_Writer.mk b_6725) x6268 x6432 (wr .i64 (rd tokens6147 i6730).Lit_) b6442 f6728 A6723 c6724 f6726 A6266 c6267 A6430 c6431 hB6729 hV6727 (h6274.rdF (i := 1) rfl) (h6274.cap (fun _ => rfl) rfl) (h6435.rdF (i := 3) rfl) (h6435.cap (fun _ => rfl) rfl) (hS.st.part 2 [5, 6, 0, 1, 2, 3, 4] (by kernel_rfl)) (wp_bind hM) (fun A6742 c6743 b_6744 f6745 f6746 w hM h6747 h6748 hst => s_back hS.ev hst.appF rfl fun hS => ?_))
      replace hS : Ss _ _ _ H [f6746, f6745, f6737, f6269, f6273, f6433, f6439] F _ _ := hS
      refine wpList_nil <| then_n <| wp_exit <| then_ex (blk_same (then_n ?_))
      refine wp_region_list <| st1 hS (mv rfl) rfl fun a w hS => st1 hS (bin rfl rfl rfl) rfl fun a w hS => st1x (v := Value.int .i64) (x0 := (w64 (i6730 + (1 : Int)))) hS (asg rfl) rfl fun i6749 a w hz hS => ?_
      have hM := lt_to hz hM; clear hz
      refine wpList_nil <| then_n ?_
      exact hJ6787 _ _ ⟨A6742, c6743, b_6744, f6745, f6746, i6749, hS.to [3, 4, 5, 6, 0, 1] (by kernel_rfl) ⟨rfl, rfl, rfl, rfl, rfl, rfl, rfl, trivial⟩, h6747, h6748, hM⟩
     ·refine wp_skip ?_
      refine then_n <| wp_seq <| wp_region_list <| st1 hS (fad rfl Tryd.runUnderlying32 rfl Tryd.sizeOf3 rfl) rfl fun a w hS => st1 hS (ldb 0 rfl hB6738 rfl rfl Tryd.isAgg3) rfl fun a w hS => s_call hS rfl Tryd.call30 (mortiseref08_LengthSymbol_c hG K ((rd tokens6147 i6730).Len_) (hS.st.part 0 [0, 1, 2, 3, 4, 5, 6] (by kernel_rfl)) (wp_bind hM) (fun x6750 w hM  hst => s_back hS.ev hst.appF rfl fun hS => ?_))
      replace hS : Ss _ _ _ H [f6737, f6269, f6273, f6433, f6439, f6728, f6726] F _ _ := hS
      refine st1 hS (asg rfl) rfl fun a w hS => wpList_nil <| then_n <| wp_seq <| wp_region_list <| st1 hS (fad rfl Tryd.runUnderlying32 rfl Tryd.sizeOf3 rfl) rfl fun a w hS => st1 hS (ldb 0 rfl hB6738 rfl rfl Tryd.isAgg3) rfl fun a w hS => s_call hS rfl Tryd.call31 (mortiseref08_DistSymbol_c hG K ((rd tokens6147 i6730).Dist_) (hS.st.part 0 [0, 1, 2, 3, 4, 5, 6] (by kernel_rfl)) (wp_bind hM) (fun x6751 w hM  hst => s_back hS.ev hst.appF rfl fun hS => ?_))
      replace hS : Ss _ _ _ H [f6737, f6269, f6273, f6433, f6439, f6728, f6726] F _ _ := hS
      refine st1 hS (asg rfl) rfl fun a w hS => wpList_nil <| then_n <| wp_seq <| wp_region_list <| st1 hS (mv rfl) rfl fun a w hS => s_call hS rfl Tryd.call32 (mortiseref07_Length_c hG K x6750 (hS.st.part 0 [0, 1, 2, 3, 4, 5, 6] (by kernel_rfl)) (wp_bind hM) (fun x6752 x6753 w hM  hst => s_back hS.ev hst.appF rfl fun hS => ?_))
      replace hS : Ss _ _ _ H [f6737, f6269, f6273, f6433, f6439, f6728, f6726] F _ _ := hS
      refine st1 hS (mv rfl) rfl fun a w hS => st1 hS (ex rfl rfl) rfl fun a w hS => st1 hS (ex rfl rfl) rfl fun a w hS => st1 hS (asg rfl) rfl fun a w hS => st1 hS (asg rfl) rfl fun a w hS => wpList_nil <| then_n <| wp_seq <| wp_region_list <| st1 hS (mv rfl) rfl fun a w hS => s_call hS rfl Tryd.call33 (mortiseref07_Distance_c hG K x6751 (hS.st.part 0 [0, 1, 2, 3, 4, 5, 6] (by kernel_rfl)) (wp_bind hM) (fun x6754 x6755 w hM  hst => s_back hS.ev hst.appF rfl fun hS => ?_))
      replace hS : Ss _ _ _ H [f6737, f6269, f6273, f6433, f6439, f6728, f6726] F _ _ := hS
      refine st1 hS (mv rfl) rfl fun a w hS => st1 hS (ex rfl rfl) rfl fun a w hS => st1 hS (ex rfl rfl) rfl fun a w hS => st1 hS (asg rfl) rfl fun a w hS => st1 hS (asg rfl) rfl fun a w hS => wpList_nil <| then_n <| wp_seq <| wp_region_list <| st1 hS (mv rfl) rfl fun a w hS => st1 hS (mv rfl) rfl fun a w hS => st1 hS (mv rfl) rfl fun a w hS => st1 hS (mv rfl) rfl fun a w hS => s_call hS rfl Tryd.call29 (mortiseref09_put_c hG K (T_mortiseref05_Writer.mk b_6725) x6268 x6432 x6750 b6442 f6728 A6723 c6724 f6726 A6266 c6267 A6430 c6431 hB6729 hV6727 (h6274.rdF (i := 1) rfl) (h6274.cap (fun _ => rfl) rfl) (h6435.rdF (i := 3) rfl) (h6435.cap (fun _ => rfl) rfl) (hS.st.part 2 [5, 6, 0, 1, 2, 3, 4] (by kernel_rfl)) (wp_bind hM) (fun A6756 c6757 b_6758 f6759 f6760 w hM h6761 h6762 hst => s_back hS.ev hst.appF rfl fun hS => ?_))
      replace hS : Ss _ _ _ H [f6760, f6759, f6737, f6269, f6273, f6433, f6439] F _ _ := hS
      refine wpList_nil <| then_n <| wp_seq <| wp_region_list <| st1 hS (mv rfl) rfl fun a w hS => st1 hS (fad rfl Tryd.runUnderlying32 rfl Tryd.sizeOf3 rfl) rfl fun a w hS => st1 hS (ldb 2 rfl hB6738 rfl rfl Tryd.isAgg3) rfl fun a w hS => st1 hS (mv rfl) rfl fun a w hS => st1 hS (bin rfl rfl rfl) rfl fun a w hS => st1 hS (cvi rfl Tryd.runUnderlying3 Tryd.runUnderlying53) rfl fun a w hS => st1 hS (mv rfl) rfl fun a w hS => s_call hS rfl Tryd.call28 (mortiseref05_Writer_Put_c hG K (T_mortiseref05_Writer.mk b_6758) (wr .u32 (w64 ((rd tokens6147 i6730).Len_ - x6752))) x6753 b6442 f6760 A6756 c6757 f6759 h6762 h6761 (hS.st.part 2 [0, 1, 2, 3, 4, 5, 6] (by kernel_rfl)) (wp_bind hM) (fun x6763 A6764 c6765 b_6766 f6767 f6768 w hM h6769 h6770 hst => s_back hS.ev hst.appF rfl fun hS => ?_))
      replace hS : Ss _ _ _ H [f6768, f6767, f6737, f6269, f6273, f6433, f6439] F _ _ := hS
      refine wpList_nil <| then_n <| wp_seq <| wp_region_list <| st1 hS (mv rfl) rfl fun a w hS => st1 hS (mv rfl) rfl fun a w hS => st1 hS (mv rfl) rfl fun a w hS => st1 hS (mv rfl) rfl fun a w hS => s_call hS rfl Tryd.call29 (mortiseref09_put_c hG K (T_mortiseref05_Writer.mk b_6766) x6272 x6438 x6751 b6442 f6768 A6764 c6765 f6767 A6270 c6271 A6436 c6437 h6770 h6769 (h6275.rdF (i := 2) rfl) (h6275.cap (fun _ => rfl) rfl) (h6441.rdF (i := 4) rfl) (h6441.cap (fun _ => rfl) rfl) (hS.st.part 2 [0, 1, 2, 3, 4, 5, 6] (by kernel_rfl)) (wp_bind hM) (fun A6771 c6772 b_6773 f6774 f6775 w hM h6776 h6777 hst => s_back hS.ev hst.appF rfl fun hS => ?_))
      replace hS : Ss _ _ _ H [f6775, f6774, f6737, f6269, f6273, f6433, f6439] F _ _ := hS
      refine wpList_nil <| then_n <| wp_region_list <| st1 hS (mv rfl) rfl fun a w hS => st1 hS (fad rfl Tryd.runUnderlying32 rfl Tryd.sizeOf3 rfl) rfl fun a w hS => st1 hS (ldb 2 rfl hB6738 rfl rfl Tryd.isAgg3) rfl fun a w hS => st1 hS (mv rfl) rfl fun a w hS => st1 hS (bin rfl rfl rfl) rfl fun a w hS => st1 hS (cvi rfl Tryd.runUnderlying3 Tryd.runUnderlying53) rfl fun a w hS => st1 hS (mv rfl) rfl fun a w hS => s_call hS rfl Tryd.call28 (mortiseref05_Writer_Put_c hG K (T_mortiseref05_Writer.mk b_6773) (wr .u32 (w64 ((rd tokens6147 i6730).Dist_ - x6754))) x6755 b6442 f6775 A6771 c6772 f6774 h6777 h6776 (hS.st.part 2 [0, 1, 2, 3, 4, 5, 6] (by kernel_rfl)) (wp_bind hM) (fun x6778 A6779 c6780 b_6781 f6782 f6783 w hM h6784 h6785 hst => s_back hS.ev hst.appF rfl fun hS => ?_))
      replace hS : Ss _ _ _ H [f6783, f6782, f6737, f6269, f6273, f6433, f6439] F _ _ := hS
      refine wpList_nil <| blk_n (then_n ?_)
      refine wp_region_list <| st1 hS (mv rfl) rfl fun a w hS => st1 hS (bin rfl rfl rfl) rfl fun a w hS => st1x (v := Value.int .i64) (x0 := (w64 (i6730 + (1 : Int)))) hS (asg rfl) rfl fun i6786 a w hz hS => ?_
      have hM := lt_to hz hM; clear hz
      refine wpList_nil <| then_n ?_
      exact hJ6787 _ _ ⟨A6779, c6780, b_6781, f6782, f6783, i6786, hS.to [3, 4, 5, 6, 0, 1] (by kernel_rfl) ⟨rfl, rfl, rfl, rfl, rfl, rfl, rfl, trivial⟩, h6784, h6785, hM⟩
   ·refine wp_exit ?_
    refine then_ex (then_ex (blk_same (then_n ?_)))
    exact hJ6795 _ _ ⟨A6723, c6724, b_6725, f6726, f6728, hS.to [0, 2, 4, 5] (by kernel_rfl) ⟨rfl, rfl, rfl, trivial⟩, hV6727, hB6729, hM⟩
 ·intro a w hI
  obtain ⟨A6788, c6789, b_6790, f6791, f6793, hS, hV6792, hB6794, hM⟩ := hI
  rw [mortiseref09_Fixed.j2] at hM
  refine wp_seq <| wp_region_list <| st1 hS (mv rfl) rfl fun a w hS => st1 hS (mv rfl) rfl fun a w hS => st1 hS (mv rfl) rfl fun a w hS => s_call hS rfl Tryd.call29 (mortiseref09_put_c hG K (T_mortiseref05_Writer.mk b_6790) x6268 x6432 (256 : Int) b6442 f6793 A6788 c6789 f6791 A6266 c6267 A6430 c6431 hB6794 hV6792 (h6274.rdF (i := 0) rfl) (h6274.cap (fun _ => rfl) rfl) (h6435.rdF (i := 1) rfl) (h6435.cap (fun _ => rfl) rfl) (hS.st.part 2 [2, 3, 0, 1] (by kernel_rfl)) (wp_bind hM) (fun A6796 c6797 b_6798 f6799 f6800 w hM h6801 h6802 hst => s_back hS.ev hst.appF rfl fun hS => ?_))
  replace hS : Ss _ _ _ H [f6800, f6799, f6269, f6433] F _ _ := hS
  refine wpList_nil <| then_n <| wp_seq <| wp_region_list <| st1 hS (mv rfl) rfl fun a w hS => s_call hS rfl Tryd.call34 (mortiseref05_Writer_String_c hG K (T_mortiseref05_Writer.mk b_6798) b6442 f6800 A6796 c6797 f6799 h6802 h6801 (hS.st.part 2 [0, 1, 2, 3] (by kernel_rfl)) (wp_bind hM) (fun x6856 w hM  hst => s_back hS.ev hst.appF rfl fun hS => ?_))
  replace hS : Ss _ _ _ H [f6800, f6799, f6269, f6433] F _ _ := hS
  refine st1 hS (asg rfl) rfl fun a w hS => st1 hS (asg rfl) rfl fun a w hS => wpList_nil <| then_n <| wp_ret ?_
  exact s_ret (rs := [2, 3]) hS rfl rfl (hret x6856 (0 : Int) w (wp_ok hM) (hS.st.pick [] (by kernel_rfl)))

theorem mortiselaw09_DeflateFixed_c {H : Imm} {F : List Frag} {w : World} {R : Ending → World → Prop} {kr : Bool → Prop} {kp : Value → Prop} (hG : Gl H) (K : Nat) (l_1 : List T_api_Token) (A2 : Option Addr) (c3 : Nat) (hr4 : Rdl H [] F T_api_Token.cells A2 l_1) (hc5 : l_1.length ≤ c3)
    (hS : St w H [] F) (hm : (mortiselaw09_DeflateFixed.m K l_1).wp kr kp)
    (hret : ∀ (x6865 : Bool) (w : World), kr x6865 → St w H [] F → R (.returned (.bool x6865)) w)
    (hpan : ∀ v w, kp v → St w H [] F → R (.panicked [⟨v, false, false⟩]) w) :
    Calls Tryd.prog 4 ⟨[.slice A2 l_1.length c3]⟩ w R := by
 refine enter Tryd.func4 rfl Tryd.ntmps4 rfl hS fun a w hS => ?_
 have hM := hm; clear hm
 rw [mortiselaw09_DeflateFixed.m] at hM
 refine wp_seq <| wp_region_list <| st1 hS (asg rfl) rfl fun a w hS => wpList_nil <| then_n <| wp_seq <| wp_seq <| wp_region_list <| st1 hS (mv rfl) rfl fun a w hS => st1 hS (lenV rfl Tryd.runUnderlying25) rfl fun a w hS => st1 hS (bin rfl rfl rfl) rfl fun a w hS => wpList_nil <| then_n <| s_cond hS rfl hM (fun hb6 hM => ?_) (fun hb6 hM => ?_)
 ·refine wp_seq ?_
  refine wp_region_list <| s_call hS rfl Tryd.call9 (mortiselaw09_live_c hG K  (hS.st.part 0 [] (by kernel_rfl)) (wp_bind hM) (fun x6144 w hM  hst => s_back hS.ev hst.appF rfl fun hS => ?_) (fun v w hk hst => s_pan (then_pan (then_pan (⟨hS.ev.defs, hpan _ _ hk hst.appF.frame⟩)))))
  replace hS : Ss _ _ _ H [] F _ _ := hS
  refine st1 hS (asg rfl) rfl fun a w hS => wpList_nil <| then_n <| wp_ret <| then_ret ?_
  exact s_ret (rs := [2]) hS rfl rfl (hret x6144 w (wp_ok hM) (hS.st.pick [] (by kernel_rfl)))
 ·refine wp_skip ?_
  refine then_n <| wp_seq <| wp_region_list <| st1 hS (mv rfl) rfl fun a w hS => s_call hS rfl Tryd.call12 (deflate_Fixed_c hG K l_1 A2 c3 (hr4.app _) hc5 (hS.st.part 0 [] (by kernel_rfl)) (wp_bind hM) (fun x6145 x6146 w hM  hst => s_back hS.ev hst.appF rfl fun hS => ?_))
  replace hS : Ss _ _ _ H [] F _ _ := hS
  refine st1 hS (mv rfl) rfl fun a w hS => st1 hS (ex rfl rfl) rfl fun a w hS => st1 hS (ex rfl rfl) rfl fun a w hS => st1 hS (asg rfl) rfl fun a w hS => st1 hS (asg rfl) rfl fun a w hS => wpList_nil <| then_n <| wp_seq <| wp_region_list <| st1 hS (mv rfl) rfl fun a w hS => s_call hS rfl Tryd.call13 (mortiseref09_Fixed_c hG K l_1 A2 c3 (hr4.app _) hc5 (hS.st.part 0 [] (by kernel_rfl)) (wp_bind hM) (fun x6859 x6860 w hM  hst => s_back hS.ev hst.appF rfl fun hS => ?_))
  replace hS : Ss _ _ _ H [] F _ _ := hS
  refine st1 hS (mv rfl) rfl fun a w hS => st1 hS (ex rfl rfl) rfl fun a w hS => st1 hS (ex rfl rfl) rfl fun a w hS => st1 hS (asg rfl) rfl fun a w hS => st1 hS (asg rfl) rfl fun a w hS => wpList_nil <| then_n <| wp_seq <| wp_region_list <| st1 hS (mv rfl) rfl fun a w hS => st1 hS (mv rfl) rfl fun a w hS => st1 hS (bins rfl rfl rfl) rfl fun a w hS => st1 hS (mv rfl) rfl fun a w hS => g_op 3 true 24 (b := (x6145 == x6859)) (r := (x6146 == x6860)) hS rfl rfl rfl rfl rfl rfl rfl (fun hb a w hS K hK => ?_) rfl fun a w hS => ?_
  ·refine st1g hS rfl rfl rfl hb (mv rfl) rfl fun a w hS => ?_
   refine st1g hS rfl rfl rfl hb (mv rfl) rfl fun a w hS => st1g hS rfl rfl rfl hb (bin rfl rfl rfl) rfl fun a w hS => ?_
   exact wpList_nil (hK _ _ (hS.up 3 rfl rfl))
  refine st1 hS (mv rfl) rfl fun a w hS => seg_cutJ (fun a w => ∃ (v6863 : Bool), Ss 32 [] [(31, .bool v6863)] H [] F a w ∧ (mortiselaw09_DeflateFixed.j1 K v6863).wp kr kp) 2 (fun J6864 hJ6864 => ?_) ?_
  ·refine ifB (b := ((x6145 == x6859) && (x6146 == x6860))) hM (fun hb6861 hM => ?_) (fun hb6861 hM => ?_)
   ·replace hS := hS.re 28 (v := .bool true) rfl (congrArg Value.bool hb6861)
    replace hS := hS.re 29 (v := .bool true) rfl (congrArg Value.bool hb6861)
    refine unguard hS rfl rfl rfl rfl <| s_call hS rfl Tryd.call9 (mortiselaw09_live_c hG K  (hS.st.part 0 [] (by kernel_rfl)) (wp_bind hM) (fun x6862 w hM  hst => s_back hS.ev hst.appF rfl fun hS => ?_) (fun v w hk hst => s_pan (then_pan (then_pan (⟨hS.ev.defs, hpan _ _ hk hst.appF.frame⟩)))))
    replace hS : Ss _ _ _ H [] F _ _ := hS
    refine st1 hS (pk rfl rfl rfl) rfl fun a w hS => wpList_nil <| then_n ?_
    exact hJ6864 _ _ ⟨x6862, hS.to [] (by kernel_rfl) ⟨rfl, trivial⟩, hM⟩
   ·replace hS := hS.re 28 (v := .bool false) rfl (congrArg Value.bool hb6861)
    replace hS := hS.re 29 (v := .bool false) rfl (congrArg Value.bool hb6861)
    refine skips 1 hS rfl fun a w hS => st1 hS (pk rfl rfl rfl) rfl fun a w hS => wpList_nil <| then_n ?_
    exact hJ6864 _ _ ⟨false, hS.to [] (by kernel_rfl) ⟨rfl, trivial⟩, hM⟩
  ·intro a w hI
   obtain ⟨v6863, hS, hM⟩ := hI
   rw [mortiselaw09_DeflateFixed.j1] at hM
   refine st1 hS (asg rfl) rfl fun a w hS => wpList_nil <| then_n <| wp_ret ?_
   exact s_ret (rs := [2]) hS rfl rfl (hret v6863 w (wp_ok hM) (hS.st.pick [] (by kernel_rfl)))
end Go.TrydS
