/- Printed by a program of mine: each Go function answers what its model answers; conditions: what each theorem asks of memory. -/
import Derived.Test.YtjgcmokfinicnaaDoorP3xikmoa
set_option linter.unusedVariables false
set_option linter.unusedSimpArgs false
set_option maxRecDepth 100000
namespace Go.TrydS
open Go Go.Sl Go.Mo Go.Proofs
attribute [local irreducible] Res.wp
theorem match_finder_at_c {H : Imm} {F : List Frag} {w : World} {R : Ending → World → Prop} {kr : Unit → Prop} {kp : Value → Prop} (hG : Gl H) (K : Nat) (f_5861 : T_match_finder) (i5868 : Int) (b5862 : Nat) (f5863 : Frag) (b5865 : Nat) (f5866 : Frag) (hB5864 : Blk f5863 b5862 ([str f_5861.text_, .map (some b5865)]) 90) (hM5867 : MapF (kvA .u8) (okA 3) 3 (ci .i64) 1 b5865 f_5861.seen_ f5866)
    (hS : St w H [f5863, f5866] F) (hm : (match_finder_at.m K f_5861 i5868).wp kr kp)
    (hret : ∀ (w : World), kr () → St w H [f5863, f5866] F → R (.returned (.agg ⟨([((rd f_5861.text_ i5868).toNat : Int), ((rd f_5861.text_ (w64 (i5868 + (1 : Int)))).toNat : Int), ((rd f_5861.text_ (w64 (i5868 + (2 : Int)))).toNat : Int)] : List Int).flatMap (ci .u8)⟩)) w) :
    Calls Tryd.prog 66 ⟨[ptr b5862 0, .int .i64 i5868]⟩ w R := by
 refine enter Tryd.func66 rfl Tryd.ntmps66 rfl hS fun a w hS => ?_
 have hM := hm; clear hm
 rw [match_finder_at.m] at hM
 refine wp_seq <| wp_region_list <| alc ((List.replicate 3 (0 : Int)).flatMap (ci .u8)) hS Tryd.zeroValue126 rfl rfl fun w b5869 f5870 hB5871 hS => wpList_nil <| then_n <| wp_seq ?_
 obtain ⟨hk5873, hM⟩ := wp_chk hM
 obtain ⟨hk5875, hM⟩ := wp_chk hM
 obtain ⟨hk5877, hM⟩ := wp_chk hM
 refine draw_begin (vals := [some (ptr b5862 0), some (ptr b5862 0), some (ptr b5862 0), some (str f_5861.text_), some (.int .i64 i5868), some (.int .u8 ((rd f_5861.text_ i5868).toNat : Int)), some (ptr b5862 0), some (ptr b5862 0), some (ptr b5862 0), some (str f_5861.text_), some (.int .i64 i5868), some (.int .i64 (w64 (i5868 + (1 : Int)))), some (.int .u8 ((rd f_5861.text_ (w64 (i5868 + (1 : Int)))).toNat : Int)), some (ptr b5862 0), some (ptr b5862 0), some (ptr b5862 0), some (str f_5861.text_), some (.int .i64 i5868), some (.int .i64 (w64 (i5868 + (2 : Int)))), some (.int .u8 ((rd f_5861.text_ (w64 (i5868 + (2 : Int)))).toNat : Int)), some (.agg ⟨([((rd f_5861.text_ i5868).toNat : Int), ((rd f_5861.text_ (w64 (i5868 + (1 : Int)))).toNat : Int), ((rd f_5861.text_ (w64 (i5868 + (2 : Int)))).toNat : Int)] : List Int).flatMap (ci .u8)⟩), none]) hS mixed rfl ?_
 intro l w ho hcl hA hst
 refine phq hA hst ho hcl navail nmust 21 [0, 1, 2, 3, 4, 5, 6, 7, 8, 9, 10, 11, 12, 13, 14, 15, 16, 17, 18, 19, 20] rfl rfl rfl rfl rfl (by exact ⟨nR rfl rfl rfl rfl rfl (by exact ovE (mv rfl) rfl), nR rfl rfl rfl rfl rfl (by exact ovE (nck rfl) rfl), nR rfl rfl rfl rfl rfl (by exact ovE (fad rfl Tryd.runUnderlying90 rfl Tryd.sizeOf9 rfl) rfl), nR rfl rfl rfl rfl rfl (by exact ovE (ldb 1 rfl hB5864 rfl rfl Tryd.isAgg9) rfl), nR rfl rfl rfl rfl rfl (by exact ovE (mv rfl) rfl), nR rfl rfl rfl rfl rfl (by exact ovE (ixs rfl rfl Tryd.runUnderlying9 hk5873) rfl), nR rfl rfl rfl rfl rfl (by exact ovE (mv rfl) rfl), nR rfl rfl rfl rfl rfl (by exact ovE (nck rfl) rfl), nR rfl rfl rfl rfl rfl (by exact ovE (fad rfl Tryd.runUnderlying90 rfl Tryd.sizeOf9 rfl) rfl), nR rfl rfl rfl rfl rfl (by exact ovE (ldb 1 rfl hB5864 rfl rfl Tryd.isAgg9) rfl), nR rfl rfl rfl rfl rfl (by exact ovE (mv rfl) rfl), nR rfl rfl rfl rfl rfl (by exact ovE (bin rfl rfl rfl) rfl), nR rfl rfl rfl rfl rfl (by exact ovE (ixs rfl rfl Tryd.runUnderlying9 hk5875) rfl), nR rfl rfl rfl rfl rfl (by exact ovE (mv rfl) rfl), nR rfl rfl rfl rfl rfl (by exact ovE (nck rfl) rfl), nR rfl rfl rfl rfl rfl (by exact ovE (fad rfl Tryd.runUnderlying90 rfl Tryd.sizeOf9 rfl) rfl), nR rfl rfl rfl rfl rfl (by exact ovE (ldb 1 rfl hB5864 rfl rfl Tryd.isAgg9) rfl), nR rfl rfl rfl rfl rfl (by exact ovE (mv rfl) rfl), nR rfl rfl rfl rfl rfl (by exact ovE (bin rfl rfl rfl) rfl), nR rfl rfl rfl rfl rfl (by exact ovE (ixs rfl rfl Tryd.runUnderlying9 hk5877) rfl), nR rfl rfl rfl rfl rfl (by exact ovE (bldAr (([((rd f_5861.text_ i5868).toNat : Int), ((rd f_5861.text_ (w64 (i5868 + (1 : Int)))).toNat : Int), ((rd f_5861.text_ (w64 (i5868 + (2 : Int)))).toNat : Int)] : List Int).flatMap (ci .u8)) Tryd.zeroValue126 Tryd.runUnderlying126 Tryd.sizeOf5 rfl (by kernel_rfl)) rfl), trivial⟩) fun D l a w ho hcl hav hpre hm hE hk hA hst => ?_
 have hS := (Ss.mk hE hst).env2 (e' := [(4, ptr b5869 0), (25, .agg ⟨([((rd f_5861.text_ i5868).toNat : Int), ((rd f_5861.text_ (w64 (i5868 + (1 : Int)))).toNat : Int), ((rd f_5861.text_ (w64 (i5868 + (2 : Int)))).toNat : Int)] : List Int).flatMap (ci .u8)⟩)]) ⟨rfl, rfl, trivial⟩
 refine op_of_nth rfl <| stAr (xs := (List.replicate 3 (0 : Int))) (ys := ([((rd f_5861.text_ i5868).toNat : Int), ((rd f_5861.text_ (w64 (i5868 + (1 : Int)))).toNat : Int), ((rd f_5861.text_ (w64 (i5868 + (2 : Int)))).toNat : Int)] : List Int)) (g := (ci .u8)) (pre := []) (post := []) 0 hS rfl rfl hB5871 rfl (by simp) rfl (flat_ln (g := (ci .u8)) (sz := 1) (fun _ => rfl) (List.length_replicate ..)) (flat_ln (g := (ci .u8)) (sz := 1) (fun _ => rfl) rfl) (one_t5) Tryd.sizeOf126 fun w f5878 hB5879 hS => ?_
 replace hB5879 : Blk f5878 b5869 (([((rd f_5861.text_ i5868).toNat : Int), ((rd f_5861.text_ (w64 (i5868 + (1 : Int)))).toNat : Int), ((rd f_5861.text_ (w64 (i5868 + (2 : Int)))).toNat : Int)] : List Int).flatMap (ci .u8)) 126 := by simpa using hB5879
 refine wpList_nil (then_n ?_)
 replace hst := hS.st
 obtain ⟨hcl, hmust, hav2, hA⟩ := dnN (vals' := [some (ptr b5862 0), some (ptr b5862 0), some (ptr b5862 0), some (str f_5861.text_), some (.int .i64 i5868), some (.int .u8 ((rd f_5861.text_ i5868).toNat : Int)), some (ptr b5862 0), some (ptr b5862 0), some (ptr b5862 0), some (str f_5861.text_), some (.int .i64 i5868), some (.int .i64 (w64 (i5868 + (1 : Int)))), some (.int .u8 ((rd f_5861.text_ (w64 (i5868 + (1 : Int)))).toNat : Int)), some (ptr b5862 0), some (ptr b5862 0), some (ptr b5862 0), some (str f_5861.text_), some (.int .i64 i5868), some (.int .i64 (w64 (i5868 + (2 : Int)))), some (.int .u8 ((rd f_5861.text_ (w64 (i5868 + (2 : Int)))).toNat : Int)), some (.agg ⟨([((rd f_5861.text_ i5868).toNat : Int), ((rd f_5861.text_ (w64 (i5868 + (1 : Int)))).toNat : Int), ((rd f_5861.text_ (w64 (i5868 + (2 : Int)))).toNat : Int)] : List Int).flatMap (ci .u8)⟩), some undef]) 21 [(0, 21), (1, 21), (2, 21), (3, 21), (4, 21), (5, 21), (6, 21), (7, 21), (8, 21), (9, 21), (10, 21), (11, 21), (12, 21), (13, 21), (14, 21), (15, 21), (16, 21), (17, 21), (18, 21), (19, 21), (20, 21)] hA hcl hav hm hpre rfl rfl rfl rfl rfl
 clear hm hav
 refine phqE hA hst ho hcl hmust [] rfl rfl rfl trivial fun a w hS => ?_
 replace hS := hS.env2 (e' := [(4, ptr b5869 0)]) ⟨rfl, trivial⟩
 refine then_n <| wp_ret ?_
 exact s_retC (vs := [.agg ⟨([((rd f_5861.text_ i5868).toNat : Int), ((rd f_5861.text_ (w64 (i5868 + (1 : Int)))).toNat : Int), ((rd f_5861.text_ (w64 (i5868 + (2 : Int)))).toNat : Int)] : List Int).flatMap (ci .u8)⟩]) hS rfl (by exact ⟨rvR 0 rfl hB5879 rfl (flat_ln (g := (ci .u8)) (sz := 1) (fun _ => rfl) rfl) Tryd.isAgg126 Tryd.sizeOf126, trivial⟩) (hret w (wp_ok hM) (hS.st.pick [1, 2] (by kernel_rfl)))

theorem match_finder_long_c {H : Imm} {F : List Frag} {w : World} {R : Ending → World → Prop} {kr : Int → Prop} {kp : Value → Prop} (hG : Gl H) (K : Nat) (f_5891 : T_match_finder) (a_5898 : Int) (b_5899 : Int) (b5892 : Nat) (f5893 : Frag) (b5895 : Nat) (f5896 : Frag) (hB5894 : Blk f5893 b5892 ([str f_5891.text_, .map (some b5895)]) 90) (hM5897 : MapF (kvA .u8) (okA 3) 3 (ci .i64) 1 b5895 f_5891.seen_ f5896)
    (hS : St w H [f5893, f5896] F) (hm : (match_finder_long.m K f_5891 a_5898 b_5899).wp kr kp)
    (hret : ∀ (x5913 : Int) (w : World), kr x5913 → St w H [f5893, f5896] F → R (.returned (.int .i64 x5913)) w) :
    Calls Tryd.prog 67 ⟨[ptr b5892 0, .int .i64 a_5898, .int .i64 b_5899]⟩ w R := by
 refine enter Tryd.func67 rfl Tryd.ntmps67 rfl hS fun a w hS => ?_
 have hM := hm; clear hm
 rw [match_finder_long.m] at hM
 refine wp_seq <| wp_region_list <| st1 hS (asg rfl) rfl fun a w hS => wpList_nil <| then_n <| wp_seq <| wp_region_list <| st1 hS (asg rfl) rfl fun a w hS => wpList_nil <| then_n <| wp_seq <| wp_block <| s_loopJ (fun k5901 a w => ∃ (n_5900 : Int), Ss 43 [] [(0, ptr b5892 0), (1, .int .i64 a_5898), (2, .int .i64 b_5899), (7, .int .i64 n_5900)] H [f5893, f5896] F a w ∧ (match_finder_long.l1 K f_5891 a_5898 b_5899 k5901 n_5900).wp kr kp) K ?_ ?_ ?_
 ·exact ⟨(0 : Int), hS.to [0, 1] (by kernel_rfl) ⟨rfl, rfl, rfl, rfl, trivial⟩, hM⟩
 ·intro a w hI; obtain ⟨_, _, hM⟩ := hI; exact wp_fail hM
 ·intro k5901 a w hI J5912 hJ5912
  obtain ⟨n_5900, hS, hM⟩ := hI
  rw [match_finder_long.l1] at hM
  refine wp_seq <| seq_joinJ (fun a w => ∃ (v5908 : Bool), Ss 43 [] [(0, ptr b5892 0), (1, .int .i64 a_5898), (2, .int .i64 b_5899), (7, .int .i64 n_5900), (39, .bool v5908)] H [f5893, f5896] F a w ∧ (match_finder_long.j2 K (match_finder_long.l1 K f_5891 a_5898 b_5899 k5901) n_5900 v5908).wp kr kp) (fun J5909 hJ5909 => ?_) ?_
  ·refine ifB (b := (decide (n_5900 < (258 : Int)))) hM (fun hb5902 hM => ?_) (fun hb5902 hM => ?_)
   ·refine ifB (b := (decide ((w64 (b_5899 + n_5900)) < (f_5891.text_.length : Int)))) hM (fun hb5903 hM => ?_) (fun hb5903 hM => ?_)
    ·obtain ⟨hk5905, hM⟩ := wp_chk hM
     obtain ⟨hk5907, hM⟩ := wp_chk hM
     refine draw_begin (vals := [some (.int .i64 n_5900), some (.bool true), some (.bool true), some (.int .i64 b_5899), some (.int .i64 n_5900), some (.int .i64 (w64 (b_5899 + n_5900))), some (ptr b5892 0), some (ptr b5892 0), some (ptr b5892 0), some (str f_5891.text_), some (.int .i64 (f_5891.text_.length : Int)), some (.bool true), some (.bool true), some (.bool true), some (ptr b5892 0), some (ptr b5892 0), some (ptr b5892 0), some (str f_5891.text_), some (.int .i64 a_5898), some (.int .i64 n_5900), some (.int .i64 (w64 (a_5898 + n_5900))), some (.int .u8 ((rd f_5891.text_ (w64 (a_5898 + n_5900))).toNat : Int)), some (ptr b5892 0), some (ptr b5892 0), some (ptr b5892 0), some (str f_5891.text_), some (.int .i64 b_5899), some (.int .i64 n_5900), some (.int .i64 (w64 (b_5899 + n_5900))), some (.int .u8 ((rd f_5891.text_ (w64 (b_5899 + n_5900))).toNat : Int)), some (.bool (((rd f_5891.text_ (w64 (a_5898 + n_5900))).toNat : Int) == ((rd f_5891.text_ (w64 (b_5899 + n_5900))).toNat : Int))), some (.bool (((rd f_5891.text_ (w64 (a_5898 + n_5900))).toNat : Int) == ((rd f_5891.text_ (w64 (b_5899 + n_5900))).toNat : Int)))]) hS mixed rfl ?_
     intro l w ho hcl hA hst
     refine phqE hA hst ho hcl nmust [0, 1, 2, 3, 4, 5, 6, 7, 8, 9, 10, 11, 12, 13, 14, 15, 16, 17, 18, 19, 20, 21, 22, 23, 24, 25, 26, 27, 28, 29, 30, 31] rfl rfl rfl (by exact ⟨nR rfl rfl rfl rfl rfl (by exact ovE (mv rfl) rfl), nR rfl rfl rfl rfl rfl (by exact ovE (bin rfl rfl rfl) (congrArg Value.bool hb5902)), nR rfl rfl rfl rfl rfl (by exact ovE (mv rfl) rfl), nW rfl rfl rfl rfl rfl rfl rfl rfl (by exact ovE (mv rfl) rfl), nW rfl rfl rfl rfl rfl rfl rfl rfl (by exact ovE (mv rfl) rfl), nW rfl rfl rfl rfl rfl rfl rfl rfl (by exact ovE (bin rfl rfl rfl) rfl), nW rfl rfl rfl rfl rfl rfl rfl rfl (by exact ovE (mv rfl) rfl), nW rfl rfl rfl rfl rfl rfl rfl rfl (by exact ovE (nck rfl) rfl), nW rfl rfl rfl rfl rfl rfl rfl rfl (by exact ovE (fad rfl Tryd.runUnderlying90 rfl Tryd.sizeOf9 rfl) rfl), nW rfl rfl rfl rfl rfl rfl rfl rfl (by exact ovE (ldb 0 rfl hB5894 rfl rfl Tryd.isAgg9) rfl), nW rfl rfl rfl rfl rfl rfl rfl rfl (by exact ovE (lenS rfl Tryd.runUnderlying9) rfl), nW rfl rfl rfl rfl rfl rfl rfl rfl (by exact ovE (bin rfl rfl rfl) (congrArg Value.bool hb5903)), nR rfl rfl rfl rfl rfl (by exact ovE (pk rfl rfl rfl) rfl), nR rfl rfl rfl rfl rfl (by exact ovE (mv rfl) rfl), nW rfl rfl rfl rfl rfl rfl rfl rfl (by exact ovE (mv rfl) rfl), nW rfl rfl rfl rfl rfl rfl rfl rfl (by exact ovE (nck rfl) rfl), nW rfl rfl rfl rfl rfl rfl rfl rfl (by exact ovE (fad rfl Tryd.runUnderlying90 rfl Tryd.sizeOf9 rfl) rfl), nW rfl rfl rfl rfl rfl rfl rfl rfl (by exact ovE (ldb 0 rfl hB5894 rfl rfl Tryd.isAgg9) rfl), nW rfl rfl rfl rfl rfl rfl rfl rfl (by exact ovE (mv rfl) rfl), nW rfl rfl rfl rfl rfl rfl rfl rfl (by exact ovE (mv rfl) rfl), nW rfl rfl rfl rfl rfl rfl rfl rfl (by exact ovE (bin rfl rfl rfl) rfl), nW rfl rfl rfl rfl rfl rfl rfl rfl (by exact ovE (ixs rfl rfl Tryd.runUnderlying9 hk5905) rfl), nW rfl rfl rfl rfl rfl rfl rfl rfl (by exact ovE (mv rfl) rfl), nW rfl rfl rfl rfl rfl rfl rfl rfl (by exact ovE (nck rfl) rfl), nW rfl rfl rfl rfl rfl rfl rfl rfl (by exact ovE (fad rfl Tryd.runUnderlying90 rfl Tryd.sizeOf9 rfl) rfl), nW rfl rfl rfl rfl rfl rfl rfl rfl (by exact ovE (ldb 0 rfl hB5894 rfl rfl Tryd.isAgg9) rfl), nW rfl rfl rfl rfl rfl rfl rfl rfl (by exact ovE (mv rfl) rfl), nW rfl rfl rfl rfl rfl rfl rfl rfl (by exact ovE (mv rfl) rfl), nW rfl rfl rfl rfl rfl rfl rfl rfl (by exact ovE (bin rfl rfl rfl) rfl), nW rfl rfl rfl rfl rfl rfl rfl rfl (by exact ovE (ixs rfl rfl Tryd.runUnderlying9 hk5907) rfl), nW rfl rfl rfl rfl rfl rfl rfl rfl (by exact ovE (bin rfl rfl rfl) rfl), nR rfl rfl rfl rfl rfl (by exact ovE (pk rfl rfl rfl) rfl), trivial⟩) fun a w hS => ?_
     replace hS := hS.env2 (e' := [(0, ptr b5892 0), (1, .int .i64 a_5898), (2, .int .i64 b_5899), (7, .int .i64 n_5900), (39, .bool (((rd f_5891.text_ (w64 (a_5898 + n_5900))).toNat : Int) == ((rd f_5891.text_ (w64 (b_5899 + n_5900))).toNat : Int)))]) ⟨rfl, rfl, rfl, rfl, rfl, trivial⟩
     refine then_n ?_
     exact hJ5909 _ _ ⟨(((rd f_5891.text_ (w64 (a_5898 + n_5900))).toNat : Int) == ((rd f_5891.text_ (w64 (b_5899 + n_5900))).toNat : Int)), hS.to [0, 1] (by kernel_rfl) ⟨rfl, rfl, rfl, rfl, rfl, trivial⟩, hM⟩
    ·refine draw_begin (vals := [some (.int .i64 n_5900), some (.bool true), some (.bool true), some (.int .i64 b_5899), some (.int .i64 n_5900), some (.int .i64 (w64 (b_5899 + n_5900))), some (ptr b5892 0), some (ptr b5892 0), some (ptr b5892 0), some (str f_5891.text_), some (.int .i64 (f_5891.text_.length : Int)), some (.bool false), some (.bool false), some (.bool false), some (undef), some (undef), some (undef), some (undef), some (undef), some (undef), some (undef), some (undef), some (undef), some (undef), some (undef), some (undef), some (undef), some (undef), some (undef), some (undef), some (undef), some (.bool false)]) hS mixed rfl ?_
     intro l w ho hcl hA hst
     refine phqE hA hst ho hcl nmust [0, 1, 2, 3, 4, 5, 6, 7, 8, 9, 10, 11, 12, 13, 14, 15, 16, 17, 18, 19, 20, 21, 22, 23, 24, 25, 26, 27, 28, 29, 30, 31] rfl rfl rfl (by exact ⟨nR rfl rfl rfl rfl rfl (by exact ovE (mv rfl) rfl), nR rfl rfl rfl rfl rfl (by exact ovE (bin rfl rfl rfl) (congrArg Value.bool hb5902)), nR rfl rfl rfl rfl rfl (by exact ovE (mv rfl) rfl), nW rfl rfl rfl rfl rfl rfl rfl rfl (by exact ovE (mv rfl) rfl), nW rfl rfl rfl rfl rfl rfl rfl rfl (by exact ovE (mv rfl) rfl), nW rfl rfl rfl rfl rfl rfl rfl rfl (by exact ovE (bin rfl rfl rfl) rfl), nW rfl rfl rfl rfl rfl rfl rfl rfl (by exact ovE (mv rfl) rfl), nW rfl rfl rfl rfl rfl rfl rfl rfl (by exact ovE (nck rfl) rfl), nW rfl rfl rfl rfl rfl rfl rfl rfl (by exact ovE (fad rfl Tryd.runUnderlying90 rfl Tryd.sizeOf9 rfl) rfl), nW rfl rfl rfl rfl rfl rfl rfl rfl (by exact ovE (ldb 0 rfl hB5894 rfl rfl Tryd.isAgg9) rfl), nW rfl rfl rfl rfl rfl rfl rfl rfl (by exact ovE (lenS rfl Tryd.runUnderlying9) rfl), nW rfl rfl rfl rfl rfl rfl rfl rfl (by exact ovE (bin rfl rfl rfl) (congrArg Value.bool hb5903)), nR rfl rfl rfl rfl rfl (by exact ovE (pk rfl rfl rfl) rfl), nR rfl rfl rfl rfl rfl (by exact ovE (mv rfl) rfl), nS rfl rfl rfl rfl rfl rfl rfl rfl rfl, nS rfl rfl rfl rfl rfl rfl rfl rfl rfl, nS rfl rfl rfl rfl rfl rfl rfl rfl rfl, nS rfl rfl rfl rfl rfl rfl rfl rfl rfl, nS rfl rfl rfl rfl rfl rfl rfl rfl rfl, nS rfl rfl rfl rfl rfl rfl rfl rfl rfl, nS rfl rfl rfl rfl rfl rfl rfl rfl rfl, nS rfl rfl rfl rfl rfl rfl rfl rfl rfl, nS rfl rfl rfl rfl rfl rfl rfl rfl rfl, nS rfl rfl rfl rfl rfl rfl rfl rfl rfl, nS rfl rfl rfl rfl rfl rfl rfl rfl rfl, nS rfl rfl rfl rfl rfl rfl rfl rfl rfl, nS rfl rfl rfl rfl rfl rfl rfl rfl rfl, nS rfl rfl rfl rfl rfl rfl rfl rfl rfl, nS rfl rfl rfl rfl rfl rfl rfl rfl rfl, nS rfl rfl rfl rfl rfl rfl rfl rfl rfl, nS rfl rfl rfl rfl rfl rfl rfl rfl rfl, nR rfl rfl rfl rfl rfl (by exact ovE (pk rfl rfl rfl) rfl), trivial⟩) fun a w hS => ?_
     replace hS := hS.env2 (e' := [(0, ptr b5892 0), (1, .int .i64 a_5898), (2, .int .i64 b_5899), (7, .int .i64 n_5900), (39, .bool false)]) ⟨rfl, rfl, rfl, rfl, rfl, trivial⟩
     refine then_n ?_
     exact hJ5909 _ _ ⟨false, hS.to [0, 1] (by kernel_rfl) ⟨rfl, rfl, rfl, rfl, rfl, trivial⟩, hM⟩
   ·refine draw_begin (vals := [some (.int .i64 n_5900), some (.bool false), some (.bool false), some (undef), some (undef), some (undef), some (undef), some (undef), some (undef), some (undef), some (undef), some (undef), some (.bool false), some (.bool false), some (undef), some (undef), some (undef), some (undef), some (undef), some (undef), some (undef), some (undef), some (undef), some (undef), some (undef), some (undef), some (undef), some (undef), some (undef), some (undef), some (undef), some (.bool false)]) hS mixed rfl ?_
    intro l w ho hcl hA hst
    refine phqE hA hst ho hcl nmust [0, 1, 2, 3, 4, 5, 6, 7, 8, 9, 10, 11, 12, 13, 14, 15, 16, 17, 18, 19, 20, 21, 22, 23, 24, 25, 26, 27, 28, 29, 30, 31] rfl rfl rfl (by exact ⟨nR rfl rfl rfl rfl rfl (by exact ovE (mv rfl) rfl), nR rfl rfl rfl rfl rfl (by exact ovE (bin rfl rfl rfl) (congrArg Value.bool hb5902)), nR rfl rfl rfl rfl rfl (by exact ovE (mv rfl) rfl), nS rfl rfl rfl rfl rfl rfl rfl rfl rfl, nS rfl rfl rfl rfl rfl rfl rfl rfl rfl, nS rfl rfl rfl rfl rfl rfl rfl rfl rfl, nS rfl rfl rfl rfl rfl rfl rfl rfl rfl, nS rfl rfl rfl rfl rfl rfl rfl rfl rfl, nS rfl rfl rfl rfl rfl rfl rfl rfl rfl, nS rfl rfl rfl rfl rfl rfl rfl rfl rfl, nS rfl rfl rfl rfl rfl rfl rfl rfl rfl, nS rfl rfl rfl rfl rfl rfl rfl rfl rfl, nR rfl rfl rfl rfl rfl (by exact ovE (pk rfl rfl rfl) rfl), nR rfl rfl rfl rfl rfl (by exact ovE (mv rfl) rfl), nS rfl rfl rfl rfl rfl rfl rfl rfl rfl, nS rfl rfl rfl rfl rfl rfl rfl rfl rfl, nS rfl rfl rfl rfl rfl rfl rfl rfl rfl, nS rfl rfl rfl rfl rfl rfl rfl rfl rfl, nS rfl rfl rfl rfl rfl rfl rfl rfl rfl, nS rfl rfl rfl rfl rfl rfl rfl rfl rfl, nS rfl rfl rfl rfl rfl rfl rfl rfl rfl, nS rfl rfl rfl rfl rfl rfl rfl rfl rfl, nS rfl rfl rfl rfl rfl rfl rfl rfl rfl, nS rfl rfl rfl rfl rfl rfl rfl rfl rfl, nS rfl rfl rfl rfl rfl rfl rfl rfl rfl, nS rfl rfl rfl rfl rfl rfl rfl rfl rfl, nS rfl rfl rfl rfl rfl rfl rfl rfl rfl, nS rfl rfl rfl rfl rfl rfl rfl rfl rfl, nS rfl rfl rfl rfl rfl rfl rfl rfl rfl, nS rfl rfl rfl rfl rfl rfl rfl rfl rfl, nS rfl rfl rfl rfl rfl rfl rfl rfl rfl, nR rfl rfl rfl rfl rfl (by exact ovE (pk rfl rfl rfl) rfl), trivial⟩) fun a w hS => ?_
    replace hS := hS.env2 (e' := [(0, ptr b5892 0), (1, .int .i64 a_5898), (2, .int .i64 b_5899), (7, .int .i64 n_5900), (39, .bool false)]) ⟨rfl, rfl, rfl, rfl, rfl, trivial⟩
    refine then_n ?_
    exact hJ5909 _ _ ⟨false, hS.to [0, 1] (by kernel_rfl) ⟨rfl, rfl, rfl, rfl, rfl, trivial⟩, hM⟩
  ·intro a w hI
   obtain ⟨v5908, hS, hM⟩ := hI
   rw [match_finder_long.j2] at hM
   refine s_cond hS rfl hM (fun hb5910 hM => ?_) (fun hb5910 hM => ?_)
   ·refine wp_skip ?_
    refine then_n <| wp_block <| wp_region_list <| st1 hS (mv rfl) rfl fun a w hS => st1 hS (bin rfl rfl rfl) rfl fun a w hS => st1x (v := Value.int .i64) (x0 := (w64 (n_5900 + (1 : Int)))) hS (asg rfl) rfl fun n_5911 a w hz hS => ?_
    have hM := lt_to hz hM; clear hz
    refine wpList_nil <| blk_n (then_n ?_)
    exact hJ5912 _ _ ⟨n_5911, hS.to [0, 1] (by kernel_rfl) ⟨rfl, rfl, rfl, rfl, trivial⟩, hM⟩
   ·refine wp_exit ?_
    refine then_ex (then_ex (blk_same (then_n ?_)))
    refine wp_seq <| wp_region_list <| st1 hS (mv rfl) rfl fun a w hS => st1 hS (asg rfl) rfl fun a w hS => wpList_nil <| then_n <| wp_ret ?_
    exact s_ret (rs := [6]) hS rfl rfl (hret n_5900 w (wp_ok hM) (hS.st.pick [0, 1] (by kernel_rfl)))

theorem match_finder_best_c {H : Imm} {F : List Frag} {w : World} {R : Ending → World → Prop} {kr : (Int × Int) → Prop} {kp : Value → Prop} (hG : Gl H) (K : Nat) (f_5844 : T_match_finder) (i5851 : Int) (b5845 : Nat) (f5846 : Frag) (b5848 : Nat) (f5849 : Frag) (hB5847 : Blk f5846 b5845 ([str f_5844.text_, .map (some b5848)]) 90) (hM5850 : MapF (kvA .u8) (okA 3) 3 (ci .i64) 1 b5848 f_5844.seen_ f5849)
    (hS : St w H [f5846, f5849] F) (hm : (match_finder_best.m K f_5844 i5851).wp kr kp)
    (hret : ∀ (len5949 : Int) (dist5950 : Int) (w : World), kr (len5949, dist5950) → St w H [f5846, f5849] F → R (.returned (.agg ⟨[.int .u8 (0 : Int), .int .i64 len5949, .int .i64 dist5950]⟩)) w) :
    Calls Tryd.prog 43 ⟨[ptr b5845 0, .int .i64 i5851]⟩ w R := by
 refine enter Tryd.func43 rfl Tryd.ntmps43 rfl hS fun a w hS => ?_
 have hM := hm; clear hm
 rw [match_finder_best.m] at hM
 refine wp_seq <| wp_region_list <| alc ([.int .u8 (0 : Int), .int .i64 (0 : Int), .int .i64 (0 : Int)]) hS Tryd.zeroValue32 rfl rfl fun w b5852 f5853 hB5854 hS => wpList_nil <| then_n <| wp_seq <| wp_region_list <| alc ([.int .u8 (0 : Int), .int .i64 (0 : Int), .int .i64 (0 : Int)]) hS Tryd.zeroValue32 rfl rfl fun w b5855 f5856 hB5857 hS => wpList_nil <| then_n <| wp_seq <| wp_seq <| wp_region_list <| st1 hS (mv rfl) rfl fun a w hS => st1 hS (bin rfl rfl rfl) rfl fun a w hS => st1 hS (mv rfl) rfl fun a w hS => st1 hS (nck rfl) rfl fun a w hS => st1 hS (fad rfl Tryd.runUnderlying90 rfl Tryd.sizeOf9 rfl) rfl fun a w hS => st1 hS (ldb 2 rfl hB5847 rfl rfl Tryd.isAgg9) rfl fun a w hS => st1 hS (lenS rfl Tryd.runUnderlying9) rfl fun a w hS => st1 hS (bin rfl rfl rfl) rfl fun a w hS => wpList_nil <| then_n <| s_cond hS rfl hM (fun hb5858 hM => ?_) (fun hb5858 hM => ?_)
 ·refine wp_seq ?_
  refine wp_region_list <| st1 hS (ldbA 0 rfl hB5857 rfl ([.int .u8 (0 : Int), .int .i64 (0 : Int), .int .i64 (0 : Int)]) rfl rfl Tryd.isAgg32 Tryd.sizeOf32) rfl fun a w hS => stB 1 ([.int .u8 (0 : Int), .int .i64 (0 : Int), .int .i64 (0 : Int)]) ([.int .u8 (0 : Int), .int .i64 (0 : Int), .int .i64 (0 : Int)]) hS rfl rfl hB5854 rfl rfl Tryd.sizeOf32 (by simp [Value.oneCell']) (Nat.le_of_ble_eq_true rfl) rfl fun w f5859 hB5860 hS => wpList_nil <| then_n <| wp_ret <| then_ret ?_
  exact s_retC (vs := [.agg ⟨[.int .u8 (0 : Int), .int .i64 (0 : Int), .int .i64 (0 : Int)]⟩]) hS rfl (by exact ⟨rvA 1 ([.int .u8 (0 : Int), .int .i64 (0 : Int), .int .i64 (0 : Int)]) rfl hB5860 rfl rfl rfl Tryd.isAgg32 Tryd.sizeOf32, trivial⟩) (hret (0 : Int) (0 : Int) w (wp_ok hM) (hS.st.pick [2, 3] (by kernel_rfl)))
 ·refine wp_skip ?_
  refine then_n <| wp_seq <| draw_begin (vals := [some (ptr b5845 0), some (ptr b5845 0), some (ptr b5845 1), some (.map (some b5848)), some (ptr b5845 0), some (.int .i64 i5851), none, none, none]) hS mixed rfl ?_
  intro l w ho hcl hA hst
  refine phq hA hst ho hcl navail nmust 6 [0, 1, 2, 3, 4, 5] rfl rfl rfl rfl rfl (by exact ⟨nR rfl rfl rfl rfl rfl (by exact ovE (mv rfl) rfl), nR rfl rfl rfl rfl rfl (by exact ovE (nck rfl) rfl), nR rfl rfl rfl rfl rfl (by exact ovE (fad rfl Tryd.runUnderlying90 rfl Tryd.sizeOf88 rfl) rfl), nR rfl rfl rfl rfl rfl (by exact ovE (ldb 2 rfl hB5847 rfl rfl Tryd.isAgg88) rfl), nR rfl rfl rfl rfl rfl (by exact ovE (mv rfl) rfl), nR rfl rfl rfl rfl rfl (by exact ovE (mv rfl) rfl), trivial⟩) fun D l a w ho hcl hav hpre hm hE hk hA hst => ?_
  have hS := (Ss.mk hE hst).env2 (e' := [(23, ptr b5845 0), (24, .int .i64 i5851)]) ⟨rfl, rfl, trivial⟩
  refine op_of_nth rfl <| s_call hS rfl Tryd.call66 (match_finder_at_c hG K f_5844 i5851 b5845 f5846 b5848 f5849 hB5847 hM5850 (hS.st.part 2 [2, 3, 0, 1] (by kernel_rfl)) (wp_bind hM) (fun  w hM  hst => s_back hS.ev hst.appF rfl fun hS => ?_))
  replace hS : Ss _ _ _ H [f5846, f5849, f5856, f5853] F _ _ := hS
  refine wpList_nil (then_n ?_)
  replace hst := hS.st
  obtain ⟨hcl, hmust, hav2, hA⟩ := dn (vals' := [some (ptr b5845 0), some (ptr b5845 0), some (ptr b5845 1), some (.map (some b5848)), some (ptr b5845 0), some (.int .i64 i5851), some (.agg ⟨([((rd f_5844.text_ i5851).toNat : Int), ((rd f_5844.text_ (w64 (i5851 + (1 : Int)))).toNat : Int), ((rd f_5844.text_ (w64 (i5851 + (2 : Int)))).toNat : Int)] : List Int).flatMap (ci .u8)⟩), none, none]) 6 [(4, 6), (5, 6)] hA hcl hav hm hpre hk rfl rfl rfl rfl rfl rfl rfl
  clear hm hav
  refine phq hA hst ho hcl hav2 hmust 7 [0, 1, 2, 3] rfl rfl rfl rfl rfl (by exact ⟨nR rfl rfl rfl rfl rfl (by exact ovE (mv rfl) rfl), nR rfl rfl rfl rfl rfl (by exact ovE (nck rfl) rfl), nR rfl rfl rfl rfl rfl (by exact ovE (fad rfl Tryd.runUnderlying90 rfl Tryd.sizeOf88 rfl) rfl), nR rfl rfl rfl rfl rfl (by exact ovE (ldb 0 rfl hB5847 rfl rfl Tryd.isAgg88) rfl), trivial⟩) fun D l a w ho hcl hav hpre hm hE hk hA hst => ?_
  have hS := (Ss.mk hE hst).env2 (e' := [(22, .map (some b5848)), (25, .agg ⟨([((rd f_5844.text_ i5851).toNat : Int), ((rd f_5844.text_ (w64 (i5851 + (1 : Int)))).toNat : Int), ((rd f_5844.text_ (w64 (i5851 + (2 : Int)))).toNat : Int)] : List Int).flatMap (ci .u8)⟩)]) ⟨rfl, rfl, trivial⟩
  refine op_of_nth rfl <| lkM (kv := kvA .u8) (ok := okA 3) (E := 3) (g := (ci .i64)) (sz := 1) (q := ([((rd f_5844.text_ i5851).toNat : Int), ((rd f_5844.text_ (w64 (i5851 + (1 : Int)))).toNat : Int), ((rd f_5844.text_ (w64 (i5851 + (2 : Int)))).toNat : Int)] : List Int)) 1 hS rfl rfl rfl rfl hM5850 rfl (keyArr Tryd.runUnderlying126 Tryd.runUnderlying5 Tryd.sizeOf5 Tryd.isAgg5) Tryd.runUnderlying88 Tryd.zeroValue45 (fun _ => rfl) rfl rfl fun zs5880 A5881 c5882 w hz hp5884 hc5883 hS => ?_
  have hM := lt_to hz hM; clear hz
  refine wpList_nil (then_n ?_)
  replace hst := hS.st
  obtain ⟨hcl, hmust, hav2, hA⟩ := dn (vals' := [some (ptr b5845 0), some (ptr b5845 0), some (ptr b5845 1), some (.map (some b5848)), some (ptr b5845 0), some (.int .i64 i5851), some (.agg ⟨([((rd f_5844.text_ i5851).toNat : Int), ((rd f_5844.text_ (w64 (i5851 + (1 : Int)))).toNat : Int), ((rd f_5844.text_ (w64 (i5851 + (2 : Int)))).toNat : Int)] : List Int).flatMap (ci .u8)⟩), some (.slice A5881 zs5880.length c5882), some (.slice A5881 zs5880.length c5882)]) 7 [(3, 7), (6, 7), (2, 3), (4, 6), (5, 6), (1, 2), (0, 1)] hA hcl hav hm hpre hk rfl rfl rfl rfl rfl rfl rfl
  clear hm hav
  refine phqE hA hst ho hcl hmust [8] rfl rfl rfl (by exact ⟨nR rfl rfl rfl rfl rfl (by exact ovE (asg rfl) rfl), trivial⟩) fun a w hS => ?_
  replace hS := hS.env2 (e' := [(0, ptr b5845 0), (1, .int .i64 i5851), (4, ptr b5852 0), (5, ptr b5855 0), (6, .slice A5881 zs5880.length c5882)]) ⟨rfl, rfl, rfl, rfl, rfl, trivial⟩
  refine then_n <| seq_joinJ (fun a w => ∃ (len5942 : Int) (dist5943 : Int) (f5944 : Frag), Ss 63 [] [(4, ptr b5852 0), (5, ptr b5855 0)] H [f5846, f5849, f5853, f5944] F a w ∧ (Blk f5944 b5855 ([.int .u8 (0 : Int), .int .i64 len5942, .int .i64 dist5943]) 32) ∧ (match_finder_best.j2 K len5942 dist5943).wp kr kp) (fun J5946 hJ5946 => ?_) ?_
  ·refine wp_seq ?_
   refine wp_region_list <| st1 hS (asg rfl) rfl fun a w hS => wpList_nil <| then_n <| wp_block <| s_loopJ (fun k5930 a w => ∃ (len5925 : Int) (dist5926 : Int) (f5927 : Frag) (tries5929 : Int), Ss 63 [] [(0, ptr b5845 0), (1, .int .i64 i5851), (4, ptr b5852 0), (5, ptr b5855 0), (6, .slice A5881 zs5880.length c5882), (7, .int .i64 tries5929)] H [f5846, f5849, f5853, f5927] F a w ∧ (Blk f5927 b5855 ([.int .u8 (0 : Int), .int .i64 len5925, .int .i64 dist5926]) 32) ∧ (match_finder_best.l1 K f_5844 i5851 zs5880 k5930 len5925 dist5926 tries5929).wp kr kp) K ?_ ?_ ?_
   ·exact ⟨(0 : Int), (0 : Int), f5856, (0 : Int), hS.to [0, 1, 3, 2] (by kernel_rfl) ⟨rfl, rfl, rfl, rfl, rfl, rfl, trivial⟩, hB5857, hM⟩
   ·intro a w hI; obtain ⟨_, _, _, _, _, _, hM⟩ := hI; exact wp_fail hM
   ·intro k5930 a w hI J5941 hJ5941
    obtain ⟨len5925, dist5926, f5927, tries5929, hS, hB5928, hM⟩ := hI
    rw [match_finder_best.l1] at hM
    refine wp_seq <| wp_seq <| wp_region_list <| st1 hS (mv rfl) rfl fun a w hS => st1 hS (bin rfl rfl rfl) rfl fun a w hS => st1 hS (mv rfl) rfl fun a w hS => g_op 4 true 29 (b := (decide (tries5929 < (32 : Int)))) (r := (decide (tries5929 < (zs5880.length : Int)))) hS rfl rfl rfl rfl rfl rfl rfl (fun hb a w hS K hK => ?_) rfl fun a w hS => ?_
    ·refine st1g hS rfl rfl rfl hb (mv rfl) rfl fun a w hS => ?_
     refine st1g hS rfl rfl rfl hb (mv rfl) rfl fun a w hS => st1g hS rfl rfl rfl hb (lenV rfl Tryd.runUnderlying45) rfl fun a w hS => st1g hS rfl rfl rfl hb (bin rfl rfl rfl) rfl fun a w hS => ?_
     exact wpList_nil (hK _ _ (hS.up 4 rfl rfl))
    refine wpList_nil <| then_n <| s_cond hS rfl hM (fun hb5931 hM => ?_) (fun hb5931 hM => ?_)
    ·refine wp_skip ?_
     refine then_n <| wp_seq <| wp_block <| wp_seq <| wp_region_list <| st1 hS (mv rfl) rfl fun a w hS => st1 hS (mv rfl) rfl fun a w hS => st1 hS (lenV rfl Tryd.runUnderlying45) rfl fun a w hS => st1 hS (bin rfl rfl rfl) rfl fun a w hS => st1 hS (mv rfl) rfl fun a w hS => st1 hS (bin rfl rfl rfl) rfl fun a w hS => ?_
     obtain ⟨hk5932, hM⟩ := wp_chk hM
     refine st1 hS (ixV rfl rfl Tryd.runUnderlying45 Tryd.sizeOf3 (hp5884.rd (i := 1) rfl) (fun _ => rfl) rfl hk5932) rfl fun a w hS => st1 hS (ldV0 rfl (hp5884.rd (i := 1) rfl) (fun _ => rfl) hk5932 rfl Tryd.isAgg3) rfl fun a w hS => st1x (v := Value.int .i64) (x0 := (rd zs5880 (w64 ((w64 ((zs5880.length : Int) - (1 : Int))) - tries5929)))) hS (asg rfl) rfl fun p5933 a w hz hS => ?_
     have hM := lt_to hz hM; clear hz
     refine wpList_nil <| then_n <| wp_seq <| wp_seq <| wp_region_list <| st1 hS (mv rfl) rfl fun a w hS => st1 hS (mv rfl) rfl fun a w hS => st1 hS (bin rfl rfl rfl) rfl fun a w hS => st1 hS (bin rfl rfl rfl) rfl fun a w hS => wpList_nil <| then_n <| s_cond hS rfl hM (fun hb5934 hM => ?_) (fun hb5934 hM => ?_)
     ·refine wp_exit ?_
      refine then_ex (blk_ne rfl (then_ex (then_ex (blk_same (then_n ?_)))))
      exact hJ5946 _ _ ⟨len5925, dist5926, f5927, hS.to [0, 1, 2, 3] (by kernel_rfl) ⟨rfl, rfl, trivial⟩, hB5928, hM⟩
     ·refine wp_skip ?_
      refine then_n <| wp_seq <| wp_region_list <| st1 hS (mv rfl) rfl fun a w hS => st1 hS (mv rfl) rfl fun a w hS => st1 hS (mv rfl) rfl fun a w hS => s_call hS rfl Tryd.call67 (match_finder_long_c hG K f_5844 p5933 i5851 b5845 f5846 b5848 f5849 hB5847 hM5850 (hS.st.part 2 [0, 1, 2, 3] (by kernel_rfl)) (wp_bind hM) (fun x5935 w hM  hst => s_back hS.ev hst.appF rfl fun hS => ?_))
      replace hS : Ss _ _ _ H [f5846, f5849, f5853, f5927] F _ _ := hS
      refine st1 hS (asg rfl) rfl fun a w hS => wpList_nil <| then_n <| wp_seq <| wp_region_list <| st1 hS (mv rfl) rfl fun a w hS => st1 hS (fad rfl Tryd.runUnderlying32 rfl Tryd.sizeOf3 rfl) rfl fun a w hS => st1 hS (ldb 3 rfl hB5928 rfl rfl Tryd.isAgg3) rfl fun a w hS => st1 hS (bin rfl rfl rfl) rfl fun a w hS => wpList_nil <| then_n <| s_cond hS rfl hM (fun hb5936 hM => ?_) (fun hb5936 hM => ?_)
      ·refine wp_region_list ?_
       refine st1 hS (mv rfl) rfl fun a w hS => st1 hS (mv rfl) rfl fun a w hS => st1 hS (mv rfl) rfl fun a w hS => st1 hS (bin rfl rfl rfl) rfl fun a w hS => st1 hS (bld ([.int .u8 (0 : Int), .int .i64 x5935, .int .i64 (w64 (i5851 - p5933))]) [(0, 1), (1, 1), (2, 1)] Tryd.zeroValue32 Tryd.runUnderlying32 (by intro w; simp [Tryd.sizeOf3, Tryd.sizeOf5]) rfl rfl) rfl fun a w hS => stB 3 ([.int .u8 (0 : Int), .int .i64 x5935, .int .i64 (w64 (i5851 - p5933))]) ([.int .u8 (0 : Int), .int .i64 x5935, .int .i64 (w64 (i5851 - p5933))]) hS rfl rfl hB5928 rfl rfl Tryd.sizeOf32 (by simp [Value.oneCell']) (Nat.le_of_ble_eq_true rfl) rfl fun w f5937 hB5938 hS => wpList_nil <| blk_n (then_n ?_)
       refine wp_region_list <| st1 hS (mv rfl) rfl fun a w hS => st1 hS (bin rfl rfl rfl) rfl fun a w hS => st1x (v := Value.int .i64) (x0 := (w64 (tries5929 + (1 : Int)))) hS (asg rfl) rfl fun tries5939 a w hz hS => ?_
       have hM := lt_to hz hM; clear hz
       refine wpList_nil <| then_n ?_
       exact hJ5941 _ _ ⟨x5935, (w64 (i5851 - p5933)), f5937, tries5939, hS.to [0, 1, 2, 3] (by kernel_rfl) ⟨rfl, rfl, rfl, rfl, rfl, rfl, trivial⟩, hB5938, hM⟩
      ·refine wp_skip ?_
       refine blk_n (then_n ?_)
       refine wp_region_list <| st1 hS (mv rfl) rfl fun a w hS => st1 hS (bin rfl rfl rfl) rfl fun a w hS => st1x (v := Value.int .i64) (x0 := (w64 (tries5929 + (1 : Int)))) hS (asg rfl) rfl fun tries5940 a w hz hS => ?_
       have hM := lt_to hz hM; clear hz
       refine wpList_nil <| then_n ?_
       exact hJ5941 _ _ ⟨len5925, dist5926, f5927, tries5940, hS.to [0, 1, 2, 3] (by kernel_rfl) ⟨rfl, rfl, rfl, rfl, rfl, rfl, trivial⟩, hB5928, hM⟩
    ·refine wp_exit ?_
     refine then_ex (then_ex (blk_same (then_n ?_)))
     exact hJ5946 _ _ ⟨len5925, dist5926, f5927, hS.to [0, 1, 2, 3] (by kernel_rfl) ⟨rfl, rfl, trivial⟩, hB5928, hM⟩
  ·intro a w hI
   obtain ⟨len5942, dist5943, f5944, hS, hB5945, hM⟩ := hI
   rw [match_finder_best.j2] at hM
   refine wp_seq <| wp_region_list <| st1 hS (ldbA 3 rfl hB5945 rfl ([.int .u8 (0 : Int), .int .i64 len5942, .int .i64 dist5943]) rfl rfl Tryd.isAgg32 Tryd.sizeOf32) rfl fun a w hS => stB 2 ([.int .u8 (0 : Int), .int .i64 len5942, .int .i64 dist5943]) ([.int .u8 (0 : Int), .int .i64 len5942, .int .i64 dist5943]) hS rfl rfl hB5854 rfl rfl Tryd.sizeOf32 (by simp [Value.oneCell']) (Nat.le_of_ble_eq_true rfl) rfl fun w f5947 hB5948 hS => wpList_nil <| then_n <| wp_ret ?_
   exact s_retC (vs := [.agg ⟨[.int .u8 (0 : Int), .int .i64 len5942, .int .i64 dist5943]⟩]) hS rfl (by exact ⟨rvA 2 ([.int .u8 (0 : Int), .int .i64 len5942, .int .i64 dist5943]) rfl hB5948 rfl rfl rfl Tryd.isAgg32 Tryd.sizeOf32, trivial⟩) (hret len5942 dist5943 w (wp_ok hM) (hS.st.pick [0, 1] (by kernel_rfl)))

theorem match_finder_note_c {H : Imm} {F : List Frag} {w : World} {R : Ending → World → Prop} {kr : (List ((List Int) × (List Int))) → Prop} {kp : Value → Prop} (hG : Gl H) (K : Nat) (f_5982 : T_match_finder) (i5989 : Int) (b5983 : Nat) (f5984 : Frag) (b5986 : Nat) (f5987 : Frag) (hB5985 : Blk f5984 b5983 ([str f_5982.text_, .map (some b5986)]) 90) (hM5988 : MapF (kvA .u8) (okA 3) 3 (ci .i64) 1 b5986 f_5982.seen_ f5987)
    (hS : St w H [f5984, f5987] F) (hm : (match_finder_note.m K f_5982 i5989).wp kr kp)
    (hret : ∀ (seen6019 : (List ((List Int) × (List Int)))) (f6020 : Frag) (w : World), kr seen6019 → (MapF (kvA .u8) (okA 3) 3 (ci .i64) 1 b5986 seen6019 f6020) → St w H [f5984, f6020] F → R (.returned (.tuple ⟨[]⟩)) w) :
    Calls Tryd.prog 44 ⟨[ptr b5983 0, .int .i64 i5989]⟩ w R := by
 refine enter Tryd.func44 rfl Tryd.ntmps44 rfl hS fun a w hS => ?_
 have hM := hm; clear hm
 rw [match_finder_note.m] at hM
 refine wp_seq <| wp_region_list <| st1 hS (mv rfl) rfl fun a w hS => st1 hS (bin rfl rfl rfl) rfl fun a w hS => st1 hS (mv rfl) rfl fun a w hS => st1 hS (nck rfl) rfl fun a w hS => st1 hS (fad rfl Tryd.runUnderlying90 rfl Tryd.sizeOf9 rfl) rfl fun a w hS => st1 hS (ldb 0 rfl hB5985 rfl rfl Tryd.isAgg9) rfl fun a w hS => st1 hS (lenS rfl Tryd.runUnderlying9) rfl fun a w hS => st1 hS (bin rfl rfl rfl) rfl fun a w hS => wpList_nil <| then_n <| s_cond hS rfl hM (fun hb5990 hM => ?_) (fun hb5990 hM => ?_)
 ·refine wp_seq ?_
  refine wp_region_list <| st1 hS (mv rfl) rfl fun a w hS => st1 hS (mv rfl) rfl fun a w hS => s_call hS rfl Tryd.call66 (match_finder_at_c hG K f_5982 i5989 b5983 f5984 b5986 f5987 hB5985 hM5988 (hS.st.part 2 [0, 1] (by kernel_rfl)) (wp_bind hM) (fun  w hM  hst => s_back hS.ev hst.appF rfl fun hS => ?_))
  replace hS : Ss _ _ _ H [f5984, f5987] F _ _ := hS
  refine alc ((List.replicate 3 (0 : Int)).flatMap (ci .u8)) hS Tryd.zeroValue126 rfl rfl fun w b5991 f5992 hB5993 hS => stAr (xs := (List.replicate 3 (0 : Int))) (ys := ([((rd f_5982.text_ i5989).toNat : Int), ((rd f_5982.text_ (w64 (i5989 + (1 : Int)))).toNat : Int), ((rd f_5982.text_ (w64 (i5989 + (2 : Int)))).toNat : Int)] : List Int)) (g := (ci .u8)) (pre := []) (post := []) 0 hS rfl rfl hB5993 rfl (by simp) rfl (flat_ln (g := (ci .u8)) (sz := 1) (fun _ => rfl) (List.length_replicate ..)) (flat_ln (g := (ci .u8)) (sz := 1) (fun _ => rfl) rfl) (one_t5) Tryd.sizeOf126 fun w f5994 hB5995 hS => ?_
  replace hB5995 : Blk f5994 b5991 (([((rd f_5982.text_ i5989).toNat : Int), ((rd f_5982.text_ (w64 (i5989 + (1 : Int)))).toNat : Int), ((rd f_5982.text_ (w64 (i5989 + (2 : Int)))).toNat : Int)] : List Int).flatMap (ci .u8)) 126 := by simpa using hB5995
  refine wpList_nil <| then_n <| draw_begin (vals := [some (ptr b5983 0), some (ptr b5983 0), some (ptr b5983 1), some (.map (some b5986)), some (.agg ⟨([((rd f_5982.text_ i5989).toNat : Int), ((rd f_5982.text_ (w64 (i5989 + (1 : Int)))).toNat : Int), ((rd f_5982.text_ (w64 (i5989 + (2 : Int)))).toNat : Int)] : List Int).flatMap (ci .u8)⟩), some (.int .i64 i5989), none, none, none, none, none, none]) hS mixed rfl ?_
  intro l w ho hcl hA hst
  refine phq hA hst ho hcl navail nmust 6 [0, 1, 2, 3, 4, 5] rfl rfl rfl rfl rfl (by exact ⟨nR rfl rfl rfl rfl rfl (by exact ovE (mv rfl) rfl), nR rfl rfl rfl rfl rfl (by exact ovE (nck rfl) rfl), nR rfl rfl rfl rfl rfl (by exact ovE (fad rfl Tryd.runUnderlying90 rfl Tryd.sizeOf88 rfl) rfl), nR rfl rfl rfl rfl rfl (by exact ovE (ldb 1 rfl hB5985 rfl rfl Tryd.isAgg88) rfl), nR rfl rfl rfl rfl rfl (by exact ovE (ldAr (xs := ([((rd f_5982.text_ i5989).toNat : Int), ((rd f_5982.text_ (w64 (i5989 + (1 : Int)))).toNat : Int), ((rd f_5982.text_ (w64 (i5989 + (2 : Int)))).toNat : Int)] : List Int)) (g := (ci .u8)) (pre := []) (post := []) 0 rfl hB5995 rfl (by simp) rfl (flat_ln (g := (ci .u8)) (sz := 1) (fun _ => rfl) rfl) Tryd.isAgg126 Tryd.sizeOf126) rfl), nR rfl rfl rfl rfl rfl (by exact ovE (mv rfl) rfl), trivial⟩) fun D l a w ho hcl hav hpre hm hE hk hA hst => ?_
  have hS := (Ss.mk hE hst).env2 (e' := [(22, .int .i64 i5989)]) ⟨rfl, trivial⟩
  refine op_of_nth rfl <| bsl (g := (ci .i64)) ([i5989] : List Int) [.int .i64 i5989] hS Tryd.runUnderlying45 Tryd.sizeOf3 X.el3 rfl rfl rfl (by simp [Value.cells]) rfl rfl rfl rfl rfl fun w A5996 c5997 f5998 hV5999 hS => wpList_nil (then_n ?_)
  replace hst := hS.st
  obtain ⟨hcl, hmust, hav2, hA⟩ := dn (vals' := [some (ptr b5983 0), some (ptr b5983 0), some (ptr b5983 1), some (.map (some b5986)), some (.agg ⟨([((rd f_5982.text_ i5989).toNat : Int), ((rd f_5982.text_ (w64 (i5989 + (1 : Int)))).toNat : Int), ((rd f_5982.text_ (w64 (i5989 + (2 : Int)))).toNat : Int)] : List Int).flatMap (ci .u8)⟩), some (.int .i64 i5989), some (.slice A5996 ([i5989] : List Int).length c5997), none, none, none, none, none]) 6 [(5, 6)] hA hcl hav hm hpre hk rfl rfl rfl rfl rfl rfl rfl
  clear hm hav
  refine phq hA hst ho hcl hav2 hmust 7 [0, 1, 2, 3, 4] rfl rfl rfl rfl rfl (by exact ⟨nR rfl rfl rfl rfl rfl (by exact ovE (mv rfl) rfl), nR rfl rfl rfl rfl rfl (by exact ovE (nck rfl) rfl), nR rfl rfl rfl rfl rfl (by exact ovE (fad rfl Tryd.runUnderlying90 rfl Tryd.sizeOf88 rfl) rfl), nR rfl rfl rfl rfl rfl (by exact ovE (ldb 2 rfl hB5985 rfl rfl Tryd.isAgg88) rfl), nR rfl rfl rfl rfl rfl (by exact ovE (ldAr (xs := ([((rd f_5982.text_ i5989).toNat : Int), ((rd f_5982.text_ (w64 (i5989 + (1 : Int)))).toNat : Int), ((rd f_5982.text_ (w64 (i5989 + (2 : Int)))).toNat : Int)] : List Int)) (g := (ci .u8)) (pre := []) (post := []) 1 rfl hB5995 rfl (by simp) rfl (flat_ln (g := (ci .u8)) (sz := 1) (fun _ => rfl) rfl) Tryd.isAgg126 Tryd.sizeOf126) rfl), trivial⟩) fun D l a w ho hcl hav hpre hm hE hk hA hst => ?_
  have hS := (Ss.mk hE hst).env2 (e' := [(19, .map (some b5986)), (20, .agg ⟨([((rd f_5982.text_ i5989).toNat : Int), ((rd f_5982.text_ (w64 (i5989 + (1 : Int)))).toNat : Int), ((rd f_5982.text_ (w64 (i5989 + (2 : Int)))).toNat : Int)] : List Int).flatMap (ci .u8)⟩)]) ⟨rfl, rfl, trivial⟩
  refine op_of_nth rfl ?_
  replace hS := hS.front [3, 0, 1, 2] (by kernel_rfl)
  refine meM (kv := kvA .u8) (ok := okA 3) (E := 3) (g := (ci .i64)) (sz := 1) (q := ([((rd f_5982.text_ i5989).toNat : Int), ((rd f_5982.text_ (w64 (i5989 + (1 : Int)))).toNat : Int), ((rd f_5982.text_ (w64 (i5989 + (2 : Int)))).toNat : Int)] : List Int)) hS rfl rfl rfl rfl hM5988 (keyArr Tryd.runUnderlying126 Tryd.runUnderlying5 Tryd.sizeOf5 Tryd.isAgg5) Tryd.runUnderlying88 Tryd.zeroValue45 rfl fun zs6000 w A6001 c6002 n6005 f6006 f6007 hz hV6008 hH6009 hS => ?_
  have hM := lt_to hz hM; clear hz
  refine wpList_nil (then_n ?_)
  replace hst := hS.st
  obtain ⟨hcl, hmust, hav2, hA⟩ := dn (vals' := [some (ptr b5983 0), some (ptr b5983 0), some (ptr b5983 1), some (.map (some b5986)), some (.agg ⟨([((rd f_5982.text_ i5989).toNat : Int), ((rd f_5982.text_ (w64 (i5989 + (1 : Int)))).toNat : Int), ((rd f_5982.text_ (w64 (i5989 + (2 : Int)))).toNat : Int)] : List Int).flatMap (ci .u8)⟩), some (.int .i64 i5989), some (.slice A5996 ([i5989] : List Int).length c5997), some (.tuple ⟨[.slice A6001 zs6000.length c6002, .int .i64 ((n6005 : Nat) : Int)]⟩), some (.slice A6001 zs6000.length c6002), none, some (.int .i64 ((n6005 : Nat) : Int)), none]) 7 [(0, 7), (1, 7), (2, 7), (3, 7), (4, 7), (5, 7), (6, 7)] hA hcl hav hm hpre hk rfl rfl rfl rfl rfl rfl rfl
  clear hm hav
  refine phq hA hst ho hcl hav2 hmust 9 [8, 10] rfl rfl rfl rfl rfl (by exact ⟨nR rfl rfl rfl rfl rfl (by exact ovE (ex rfl rfl) rfl), nR rfl rfl rfl rfl rfl (by exact ovE (ex rfl rfl) rfl), trivial⟩) fun D l a w ho hcl hav hpre hm hE hk hA hst => ?_
  have hS := (Ss.mk hE hst).env2 (e' := [(21, .slice A6001 zs6000.length c6002), (23, .slice A5996 ([i5989] : List Int).length c5997)]) ⟨rfl, rfl, trivial⟩
  refine op_of_nth rfl ?_
  obtain ⟨hk6010, hM⟩ := wp_chk hM
  refine apV (ys := ([i5989] : List Int)) 0 hS rfl rfl hV6008 rfl (hV5999.rd (i := 2) rfl) Tryd.runUnderlying45 Tryd.runUnderlying45 X.el3 (fun _ => rfl) rfl one_t3 hk6010 rfl fun zs6015 w A6011 c6012 f6013 hz hV6014 hS => ?_
  have hM := lt_to hz hM; clear hz
  refine wpList_nil (then_n ?_)
  replace hst := hS.st
  obtain ⟨hcl, hmust, hav2, hA⟩ := dn (vals' := [some (ptr b5983 0), some (ptr b5983 0), some (ptr b5983 1), some (.map (some b5986)), some (.agg ⟨([((rd f_5982.text_ i5989).toNat : Int), ((rd f_5982.text_ (w64 (i5989 + (1 : Int)))).toNat : Int), ((rd f_5982.text_ (w64 (i5989 + (2 : Int)))).toNat : Int)] : List Int).flatMap (ci .u8)⟩), some (.int .i64 i5989), some (.slice A5996 ([i5989] : List Int).length c5997), some (.tuple ⟨[.slice A6001 zs6000.length c6002, .int .i64 ((n6005 : Nat) : Int)]⟩), some (.slice A6001 zs6000.length c6002), some (.slice A6011 zs6015.length c6012), some (.int .i64 ((n6005 : Nat) : Int)), none]) 9 [(6, 9), (7, 9), (8, 9), (5, 6), (0, 7), (1, 7), (2, 7), (3, 7), (4, 7)] hA hcl hav hm hpre hk rfl rfl rfl rfl rfl rfl rfl
  clear hm hav
  refine phq hA hst ho hcl hav2 hmust 11 [10] rfl rfl rfl rfl rfl (by exact ⟨nR rfl rfl rfl rfl rfl (by exact ovE (ex rfl rfl) rfl), trivial⟩) fun D l a w ho hcl hav hpre hm hE hk hA hst => ?_
  have hS := (Ss.mk hE hst).env2 (e' := [(19, .map (some b5986)), (25, .slice A6011 zs6015.length c6012), (26, .int .i64 ((n6005 : Nat) : Int))]) ⟨rfl, rfl, rfl, trivial⟩
  refine op_of_nth rfl ?_
  replace hS := hS.front [0, 1, 2, 3, 4] (by kernel_rfl)
  refine esM (kv := kvA .u8) (ok := okA 3) (E := 3) (g := (ci .i64)) (sz := 1) hS rfl rfl rfl hV6014 hH6009 fun m6016 w f6017 hz hM6018 hS => ?_
  have hM := lt_to hz hM; clear hz
  refine wpList_nil (then_n ?_)
  replace hst := hS.st
  obtain ⟨hcl, hmust, hav2, hA⟩ := dnN (vals' := [some (ptr b5983 0), some (ptr b5983 0), some (ptr b5983 1), some (.map (some b5986)), some (.agg ⟨([((rd f_5982.text_ i5989).toNat : Int), ((rd f_5982.text_ (w64 (i5989 + (1 : Int)))).toNat : Int), ((rd f_5982.text_ (w64 (i5989 + (2 : Int)))).toNat : Int)] : List Int).flatMap (ci .u8)⟩), some (.int .i64 i5989), some (.slice A5996 ([i5989] : List Int).length c5997), some (.tuple ⟨[.slice A6001 zs6000.length c6002, .int .i64 ((n6005 : Nat) : Int)]⟩), some (.slice A6001 zs6000.length c6002), some (.slice A6011 zs6015.length c6012), some (.int .i64 ((n6005 : Nat) : Int)), some undef]) 11 [(0, 11), (1, 11), (2, 11), (3, 11), (4, 11), (5, 11), (6, 11), (7, 11), (8, 11), (9, 11), (10, 11)] hA hcl hav hm hpre rfl rfl rfl rfl rfl
  clear hm hav
  refine phqE hA hst ho hcl hmust [] rfl rfl rfl trivial fun a w hS => ?_
  replace hS := hS.env2 (e' := []) trivial
  exact s_end (rs := []) hS rfl rfl (hret m6016 f6017 w (wp_ok hM) hM6018 (hS.st.pick [3, 0] (by kernel_rfl)))
 ·refine wp_skip ?_
  exact s_end (rs := []) hS rfl rfl (hret f_5982.seen_ f5987 w (wp_ok hM) hM5988 (hS.st.pick [0, 1] (by kernel_rfl)))

theorem match_Find_c {H : Imm} {F : List Frag} {w : World} {R : Ending → World → Prop} {kr : (List T_api_Token) → Prop} {kp : Value → Prop} (hG : Gl H) (K : Nat) (s5830 : List UInt8)
    (hS : St w H [] F) (hm : (match_Find.m K s5830).wp kr kp)
    (hret : ∀ (A6116 : Option Addr) (c6117 : Nat) (x6118 : (List T_api_Token)) (f6119 : Frag) (w : World), kr x6118 → (Vec 32 T_api_Token.cells 3 A6116 x6118 c6117 f6119) → St w H [f6119] F → R (.returned (.slice A6116 x6118.length c6117)) w) :
    Calls Tryd.prog 19 ⟨[str s5830]⟩ w R := by
 refine enter Tryd.func19 rfl Tryd.ntmps19 rfl hS fun a w hS => ?_
 have hM := hm; clear hm
 rw [match_Find.m] at hM
 refine wp_seq <| wp_region_list <| st1 hS (asg rfl) rfl fun a w hS => ?_
 obtain ⟨f5831, hV5832, hS⟩ := hS.nilV 32 T_api_Token.cells 3
 refine wpList_nil <| then_n <| wp_seq <| wp_region_list <| st1 hS (mv rfl) rfl fun a w hS => mkM (kv := kvA .u8) (ok := okA 3) (E := 3) (g := (ci .i64)) (sz := 1) hS rfl fun w b5833 f5834 hM5835 hS => st1 hS (bld ([str s5830, .map (some b5833)]) [(0, 1), (1, 1)] Tryd.zeroValue90 Tryd.runUnderlying90 (by intro w; simp [Tryd.sizeOf88, Tryd.sizeOf9]) rfl rfl) rfl fun a w hS => bx ([str s5830, .map (some b5833)]) hS rfl rfl rfl fun w b5836 f5837 hB5838 hS => st1 hS (asg rfl) rfl fun a w hS => wpList_nil <| then_n <| wp_seq <| wp_region_list <| st1 hS (asg rfl) rfl fun a w hS => ?_
 obtain ⟨f5839, hV5840, hS⟩ := hS.nilV 32 T_api_Token.cells 3
 refine wpList_nil <| then_n <| wp_seq <| wp_seq <| wp_region_list <| st1 hS (asg rfl) rfl fun a w hS => wpList_nil <| then_n <| wp_block <| s_loopJ (fun k6061 a w => ∃ (seen6052 : (List ((List Int) × (List Int)))) (f6053 : Frag) (A6055 : Option Addr) (c6056 : Nat) (l_6057 : (List T_api_Token)) (f6058 : Frag) (i6060 : Int), Ss 41 [] [(0, str s5830), (3, ptr b5836 0), (4, .slice A6055 l_6057.length c6056), (5, .int .i64 i6060)] H [f5837, f6053, f6058] F a w ∧ (MapF (kvA .u8) (okA 3) 3 (ci .i64) 1 b5833 seen6052 f6053) ∧ (Vec 32 T_api_Token.cells 3 A6055 l_6057 c6056 f6058) ∧ (match_Find.l1 K s5830 k6061 seen6052 l_6057 i6060).wp kr kp) K ?_ ?_ ?_
 ·exact ⟨([] : List ((List Int) × (List Int))), f5834, none, 0, ([] : List T_api_Token), f5839, (0 : Int), hS.to [1, 2, 0] (by kernel_rfl) ⟨rfl, rfl, rfl, rfl, trivial⟩, hM5835, hV5840, hM⟩
 ·intro a w hI; obtain ⟨_, _, _, _, _, _, _, _, _, _, hM⟩ := hI; exact wp_fail hM
 ·intro k6061 a w hI J6115 hJ6115
  obtain ⟨seen6052, f6053, A6055, c6056, l_6057, f6058, i6060, hS, hM6054, hV6059, hM⟩ := hI
  rw [match_Find.l1] at hM
  refine wp_seq <| wp_seq <| wp_region_list <| st1 hS (mv rfl) rfl fun a w hS => st1 hS (mv rfl) rfl fun a w hS => st1 hS (lenS rfl Tryd.runUnderlying9) rfl fun a w hS => st1 hS (bin rfl rfl rfl) rfl fun a w hS => wpList_nil <| then_n <| s_cond hS rfl hM (fun hb6062 hM => ?_) (fun hb6062 hM => ?_)
  ·refine wp_skip ?_
   refine then_n <| wp_block <| wp_seq <| wp_region_list <| st1 hS (mv rfl) rfl fun a w hS => st1 hS (mv rfl) rfl fun a w hS => s_call hS rfl Tryd.call43 (match_finder_best_c hG K (T_match_finder.mk s5830 seen6052) i6060 b5836 f5837 b5833 f6053 hB5838 hM6054 (hS.st.part 2 [0, 1, 2] (by kernel_rfl)) (wp_bind hM) (fun len6063 dist6064 w hM  hst => s_back hS.ev hst.appF rfl fun hS => ?_))
   replace hS : Ss _ _ _ H [f5837, f6053, f6058] F _ _ := hS
   refine alc ([.int .u8 (0 : Int), .int .i64 (0 : Int), .int .i64 (0 : Int)]) hS Tryd.zeroValue32 rfl rfl fun w b6065 f6066 hB6067 hS => stB 0 ([.int .u8 (0 : Int), .int .i64 len6063, .int .i64 dist6064]) ([.int .u8 (0 : Int), .int .i64 len6063, .int .i64 dist6064]) hS rfl rfl hB6067 rfl rfl Tryd.sizeOf32 (by simp [Value.oneCell']) (Nat.le_of_ble_eq_true rfl) rfl fun w f6068 hB6069 hS => wpList_nil <| then_n <| seq_joinJ (fun a w => ∃ (lit6074 : Int) (len6075 : Int) (dist6076 : Int) (f6077 : Frag), Ss 41 [] [(0, str s5830), (3, ptr b5836 0), (4, .slice A6055 l_6057.length c6056), (5, .int .i64 i6060), (6, ptr b6065 0)] H [f5837, f6053, f6058, f6077] F a w ∧ (Blk f6077 b6065 ([.int .u8 lit6074, .int .i64 len6075, .int .i64 dist6076]) 32) ∧ (match_Find.j2 K (match_Find.l1 K s5830 k6061) s5830 seen6052 l_6057 i6060 lit6074 len6075 dist6076).wp kr kp) (fun J6079 hJ6079 => ?_) ?_
   ·refine wp_seq ?_
    refine wp_region_list <| st1 hS (fad rfl Tryd.runUnderlying32 rfl Tryd.sizeOf3 rfl) rfl fun a w hS => st1 hS (ldb 0 rfl hB6069 rfl rfl Tryd.isAgg3) rfl fun a w hS => st1 hS (bin rfl rfl rfl) rfl fun a w hS => wpList_nil <| then_n <| s_cond hS rfl hM (fun hb6070 hM => ?_) (fun hb6070 hM => ?_)
    ·refine wp_region_list ?_
     refine st1 hS (mv rfl) rfl fun a w hS => st1 hS (mv rfl) rfl fun a w hS => ?_
     obtain ⟨hk6071, hM⟩ := wp_chk hM
     refine st1 hS (ixs rfl rfl Tryd.runUnderlying9 hk6071) rfl fun a w hS => st1 hS (bld ([.int .u8 ((rd s5830 i6060).toNat : Int), .int .i64 (0 : Int), .int .i64 (0 : Int)]) [(0, 1), (1, 1), (2, 1)] Tryd.zeroValue32 Tryd.runUnderlying32 (by intro w; simp [Tryd.sizeOf3, Tryd.sizeOf5]) rfl rfl) rfl fun a w hS => stB 0 ([.int .u8 ((rd s5830 i6060).toNat : Int), .int .i64 (0 : Int), .int .i64 (0 : Int)]) ([.int .u8 ((rd s5830 i6060).toNat : Int), .int .i64 (0 : Int), .int .i64 (0 : Int)]) hS rfl rfl hB6069 rfl rfl Tryd.sizeOf32 (by simp [Value.oneCell']) (Nat.le_of_ble_eq_true rfl) rfl fun w f6072 hB6073 hS => wpList_nil <| then_n ?_
     exact hJ6079 _ _ ⟨((rd s5830 i6060).toNat : Int), (0 : Int), (0 : Int), f6072, hS.to [1, 2, 3, 0] (by kernel_rfl) ⟨rfl, rfl, rfl, rfl, rfl, trivial⟩, hB6073, hM⟩
    ·refine wp_skip ?_
     refine then_n ?_
     exact hJ6079 _ _ ⟨(0 : Int), len6063, dist6064, f6068, hS.to [1, 2, 3, 0] (by kernel_rfl) ⟨rfl, rfl, rfl, rfl, rfl, trivial⟩, hB6069, hM⟩
   ·intro a w hI
    obtain ⟨lit6074, len6075, dist6076, f6077, hS, hB6078, hM⟩ := hI
    rw [match_Find.j2] at hM
    refine wp_seq <| wp_region_list <| st1 hS (mv rfl) rfl fun a w hS => st1 hS (ldbA 3 rfl hB6078 rfl ([.int .u8 lit6074, .int .i64 len6075, .int .i64 dist6076]) rfl rfl Tryd.isAgg32 Tryd.sizeOf32) rfl fun a w hS => bsl (g := T_api_Token.cells) ([(T_api_Token.mk lit6074 len6075 dist6076)] : List T_api_Token) [.agg ⟨[.int .u8 lit6074, .int .i64 len6075, .int .i64 dist6076]⟩] hS Tryd.runUnderlying25 Tryd.sizeOf32 X.el32 rfl rfl rfl (by simp [Value.cells]) rfl rfl rfl rfl rfl fun w A6080 c6081 f6082 hV6083 hS => ?_
    obtain ⟨hk6084, hM⟩ := wp_chk hM
    refine apV (ys := ([(T_api_Token.mk lit6074 len6075 dist6076)] : List T_api_Token)) 3 hS rfl rfl hV6059 rfl (hV6083.rd (i := 0) rfl) Tryd.runUnderlying25 Tryd.runUnderlying25 X.el32 (fun _ => rfl) rfl one_t32 hk6084 rfl fun zs6089 w A6085 c6086 f6087 hz hV6088 hS => ?_
    have hM := lt_to hz hM; clear hz
    refine st1 hS (asg rfl) rfl fun a w hS => wpList_nil <| then_n <| wp_seq <| wp_region_list <| st1 hS (fad rfl Tryd.runUnderlying32 rfl Tryd.sizeOf3 rfl) rfl fun a w hS => st1 hS (ldb 4 rfl hB6078 rfl rfl Tryd.isAgg3) rfl fun a w hS => st1 hS (maxI rfl rfl) rfl fun a w hS => st1 hS (mv rfl) rfl fun a w hS => wpList_nil <| then_n <| wp_block <| s_loopJ (fun k6108 a w => ∃ (seen6103 : (List ((List Int) × (List Int)))) (f6104 : Frag) (i6106 : Int) (v6107 : Int), Ss 41 [] [(0, str s5830), (3, ptr b5836 0), (4, .slice A6085 zs6089.length c6086), (5, .int .i64 i6106), (31, .int .i64 (if len6075 > (1 : Int) then len6075 else (1 : Int))), (32, .int .i64 v6107)] H [f5837, f6104, f6087] F a w ∧ (MapF (kvA .u8) (okA 3) 3 (ci .i64) 1 b5833 seen6103 f6104) ∧ (match_Find.l3 K (match_Find.l1 K s5830 k6061) s5830 len6075 zs6089 k6108 seen6103 i6106 v6107).wp kr kp) K ?_ ?_ ?_
    ·exact ⟨seen6052, f6053, i6060, (0 : Int), hS.to [1, 2, 3] (by kernel_rfl) ⟨rfl, rfl, rfl, rfl, rfl, rfl, trivial⟩, hM6054, hM⟩
    ·intro a w hI; obtain ⟨_, _, _, _, _, _, hM⟩ := hI; exact wp_fail hM
    ·intro k6108 a w hI J6114 hJ6114
     obtain ⟨seen6103, f6104, i6106, v6107, hS, hM6105, hM⟩ := hI
     rw [match_Find.l3] at hM
     refine wp_seq <| wp_region_list <| st1 hS (bin rfl rfl rfl) rfl fun a w hS => wpList_nil <| then_n <| wp_seq <| s_cond hS rfl hM (fun hb6109 hM => ?_) (fun hb6109 hM => ?_)
     ·refine wp_skip ?_
      refine then_n <| wp_seq <| wp_block <| wp_seq <| wp_region_list <| st1 hS (mv rfl) rfl fun a w hS => st1 hS (mv rfl) rfl fun a w hS => s_call hS rfl Tryd.call44 (match_finder_note_c hG K (T_match_finder.mk s5830 seen6103) i6106 b5836 f5837 b5833 f6104 hB5838 hM6105 (hS.st.part 2 [0, 1, 2] (by kernel_rfl)) (wp_bind hM) (fun seen6110 f6111 w hM h6112 hst => s_back hS.ev hst.appF rfl fun hS => ?_))
      replace hS : Ss _ _ _ H [f5837, f6111, f6087] F _ _ := hS
      refine wpList_nil <| then_n <| wp_region_list <| st1 hS (mv rfl) rfl fun a w hS => st1 hS (bin rfl rfl rfl) rfl fun a w hS => st1x (v := Value.int .i64) (x0 := (w64 (i6106 + (1 : Int)))) hS (asg rfl) rfl fun i6113 a w hz hS => ?_
      have hM := lt_to hz hM; clear hz
      refine wpList_nil <| blk_n (then_n ?_)
      refine wp_region_list <| st1 hS (bin rfl rfl rfl) rfl fun a w hS => st1 hS (mv rfl) rfl fun a w hS => wpList_nil <| then_n ?_
      exact hJ6114 _ _ ⟨seen6110, f6111, i6113, (w64 (v6107 + (1 : Int))), hS.to [0, 1, 2] (by kernel_rfl) ⟨rfl, rfl, rfl, rfl, rfl, rfl, trivial⟩, h6112, hM⟩
     ·refine wp_exit ?_
      refine then_ex (then_ex (blk_same (blk_n (then_n ?_))))
      exact hJ6115 _ _ ⟨seen6103, f6104, A6085, c6086, zs6089, f6087, i6106, hS.to [0, 1, 2] (by kernel_rfl) ⟨rfl, rfl, rfl, rfl, trivial⟩, hM6105, hV6088, hM⟩
  ·refine wp_exit ?_
   refine then_ex (then_ex (blk_same (then_n ?_)))
   refine wp_seq <| wp_region_list <| st1 hS (mv rfl) rfl fun a w hS => st1 hS (asg rfl) rfl fun a w hS => wpList_nil <| then_n <| wp_ret ?_
   exact s_ret (rs := [2]) hS rfl rfl (hret A6055 c6056 l_6057 f6058 w (wp_ok hM) hV6059 (hS.st.pick [2] (by kernel_rfl)))

theorem deflate_Deflate_c {H : Imm} {F : List Frag} {w : World} {R : Ending → World → Prop} {kr : (List UInt8) → Prop} {kp : Value → Prop} (hG : Gl H) (K : Nat) (s5829 : List UInt8)
    (hS : St w H [] F) (hm : (deflate_Deflate.m K s5829).wp kr kp)
    (hret : ∀ (x6135 : List UInt8) (w : World), kr x6135 → St w H [] F → R (.returned (str x6135)) w)
    (hpan : ∀ v w, kp v → St w H [] F → R (.panicked [⟨v, false, false⟩]) w) :
    Calls Tryd.prog 18 ⟨[str s5829]⟩ w R := by
 refine enter Tryd.func18 rfl Tryd.ntmps18 rfl hS fun a w hS => ?_
 have hM := hm; clear hm
 rw [deflate_Deflate.m] at hM
 refine wp_seq <| wp_region_list <| st1 hS (asg rfl) rfl fun a w hS => wpList_nil <| then_n <| wp_seq <| wp_region_list <| st1 hS (mv rfl) rfl fun a w hS => s_call hS rfl Tryd.call19 (match_Find_c hG K s5829 (hS.st.part 0 [] (by kernel_rfl)) (wp_bind hM) (fun A6121 c6122 x6123 f6124 w hM h6125 hst => s_back hS.ev hst.appF rfl fun hS => ?_))
 replace hS : Ss _ _ _ H [f6124] F _ _ := hS
 refine st1 hS (asg rfl) rfl fun a w hS => wpList_nil <| then_n <| wp_seq <| wp_region_list <| st1 hS (mv rfl) rfl fun a w hS => s_call hS rfl Tryd.call10 (deflate_Stored_c hG K s5829 (hS.st.part 0 [0] (by kernel_rfl)) (wp_bind hM) (fun x6126 w hM  hst => s_back hS.ev hst.appF rfl fun hS => ?_))
 replace hS : Ss _ _ _ H [f6124] F _ _ := hS
 refine st1 hS (asg rfl) rfl fun a w hS => wpList_nil <| then_n <| seq_joinJ (fun a w => ∃ (best6130 : List UInt8), Ss 44 [] [(3, .slice A6121 x6123.length c6122), (4, str best6130)] H [f6124] F a w ∧ (deflate_Deflate.j1 K x6123 best6130).wp kr kp) (fun J6131 hJ6131 => ?_) ?_
 ·refine wp_seq ?_
  refine wp_region_list <| st1 hS (mv rfl) rfl fun a w hS => s_call hS rfl Tryd.call12 (deflate_Fixed_c hG K x6123 A6121 c6122 (h6125.rdF (i := 0) rfl) (h6125.cap (fun _ => rfl) rfl) (hS.st.part 0 [0] (by kernel_rfl)) (wp_bind hM) (fun x6127 x6128 w hM  hst => s_back hS.ev hst.appF rfl fun hS => ?_))
  replace hS : Ss _ _ _ H [f6124] F _ _ := hS
  refine st1 hS (mv rfl) rfl fun a w hS => st1 hS (ex rfl rfl) rfl fun a w hS => st1 hS (ex rfl rfl) rfl fun a w hS => st1 hS (asg rfl) rfl fun a w hS => st1 hS (asg rfl) rfl fun a w hS => wpList_nil <| then_n <| wp_seq <| wp_region_list <| st1 hS (mv rfl) rfl fun a w hS => st1 hS (bin rfl rfl rfl) rfl fun a w hS => st1 hS (mv rfl) rfl fun a w hS => g_op 5 true 20 (b := (x6128 == (0 : Int))) (r := (decide ((x6127.length : Int) < (x6126.length : Int)))) hS rfl rfl rfl rfl rfl rfl rfl (fun hb a w hS K hK => ?_) rfl fun a w hS => ?_
  ·refine st1g hS rfl rfl rfl hb (mv rfl) rfl fun a w hS => ?_
   refine st1g hS rfl rfl rfl hb (lenS rfl Tryd.runUnderlying9) rfl fun a w hS => st1g hS rfl rfl rfl hb (mv rfl) rfl fun a w hS => st1g hS rfl rfl rfl hb (lenS rfl Tryd.runUnderlying9) rfl fun a w hS => st1g hS rfl rfl rfl hb (bin rfl rfl rfl) rfl fun a w hS => ?_
   exact wpList_nil (hK _ _ (hS.up 5 rfl rfl))
  refine wpList_nil <| then_n <| s_cond hS rfl hM (fun hb6129 hM => ?_) (fun hb6129 hM => ?_)
  ·refine wp_region_list ?_
   refine st1 hS (mv rfl) rfl fun a w hS => st1 hS (asg rfl) rfl fun a w hS => wpList_nil <| then_n ?_
   exact hJ6131 _ _ ⟨x6127, hS.to [0] (by kernel_rfl) ⟨rfl, rfl, trivial⟩, hM⟩
  ·refine wp_skip ?_
   refine then_n ?_
   exact hJ6131 _ _ ⟨x6126, hS.to [0] (by kernel_rfl) ⟨rfl, rfl, trivial⟩, hM⟩
 ·intro a w hI
  obtain ⟨best6130, hS, hM⟩ := hI
  rw [deflate_Deflate.j1] at hM
  refine wp_seq <| wp_seq <| wp_region_list <| st1 hS (mv rfl) rfl fun a w hS => s_call hS rfl Tryd.call14 (deflate_Dynamic_c hG K x6123 A6121 c6122 (h6125.rdF (i := 0) rfl) (h6125.cap (fun _ => rfl) rfl) (hS.st.part 0 [0] (by kernel_rfl)) (wp_bind hM) (fun x6132 x6133 w hM  hst => s_back hS.ev hst.appF rfl fun hS => ?_) (fun v w hk hst => s_pan (then_pan (then_pan (⟨hS.ev.defs, hpan _ _ hk hst.appF.frame⟩)))))
  replace hS : Ss _ _ _ H [f6124] F _ _ := hS
  refine st1 hS (mv rfl) rfl fun a w hS => st1 hS (ex rfl rfl) rfl fun a w hS => st1 hS (ex rfl rfl) rfl fun a w hS => st1 hS (asg rfl) rfl fun a w hS => st1 hS (asg rfl) rfl fun a w hS => wpList_nil <| then_n <| wp_seq <| wp_region_list <| st1 hS (mv rfl) rfl fun a w hS => st1 hS (bin rfl rfl rfl) rfl fun a w hS => st1 hS (mv rfl) rfl fun a w hS => g_op 5 true 35 (b := (x6133 == (0 : Int))) (r := (decide ((x6132.length : Int) < (best6130.length : Int)))) hS rfl rfl rfl rfl rfl rfl rfl (fun hb a w hS K hK => ?_) rfl fun a w hS => ?_
  ·refine st1g hS rfl rfl rfl hb (mv rfl) rfl fun a w hS => ?_
   refine st1g hS rfl rfl rfl hb (lenS rfl Tryd.runUnderlying9) rfl fun a w hS => st1g hS rfl rfl rfl hb (mv rfl) rfl fun a w hS => st1g hS rfl rfl rfl hb (lenS rfl Tryd.runUnderlying9) rfl fun a w hS => st1g hS rfl rfl rfl hb (bin rfl rfl rfl) rfl fun a w hS => ?_
   exact wpList_nil (hK _ _ (hS.up 5 rfl rfl))
  refine wpList_nil <| then_n <| s_cond hS rfl hM (fun hb6134 hM => ?_) (fun hb6134 hM => ?_)
  ·refine wp_region_list ?_
   refine st1 hS (mv rfl) rfl fun a w hS => st1 hS (asg rfl) rfl fun a w hS => wpList_nil <| then_n <| wp_seq <| wp_region_list <| st1 hS (mv rfl) rfl fun a w hS => st1 hS (asg rfl) rfl fun a w hS => wpList_nil <| then_n <| wp_ret ?_
   exact s_ret (rs := [2]) hS rfl rfl (hret x6132 w (wp_ok hM) (hS.st.pick [] (by kernel_rfl)))
  ·refine wp_skip ?_
   refine then_n <| wp_seq <| wp_region_list <| st1 hS (mv rfl) rfl fun a w hS => st1 hS (asg rfl) rfl fun a w hS => wpList_nil <| then_n <| wp_ret ?_
   exact s_ret (rs := [2]) hS rfl rfl (hret best6130 w (wp_ok hM) (hS.st.pick [] (by kernel_rfl)))

theorem mortiselaw09_live_c {H : Imm} {F : List Frag} {w : World} {R : Ending → World → Prop} {kr : Bool → Prop} {kp : Value → Prop} (hG : Gl H) (K : Nat)
    (hS : St w H [] F) (hm : (mortiselaw09_live.m K).wp kr kp)
    (hret : ∀ (x6139 : Bool) (w : World), kr x6139 → St w H [] F → R (.returned (.bool x6139)) w)
    (hpan : ∀ v w, kp v → St w H [] F → R (.panicked [⟨v, false, false⟩]) w) :
    Calls Tryd.prog 9 ⟨[]⟩ w R := by
 refine enter Tryd.func9 rfl Tryd.ntmps9 rfl hS fun a w hS => ?_
 have hM := hm; clear hm
 rw [mortiselaw09_live.m] at hM
 refine wp_seq <| wp_region_list <| st1 hS (asg rfl) rfl fun a w hS => wpList_nil <| then_n <| wp_seq <| wp_region_list <| st1 hS (bld ([.int .u8 (97 : Int), .int .i64 (0 : Int), .int .i64 (0 : Int)]) [(0, 1), (1, 1), (2, 1)] Tryd.zeroValue32 Tryd.runUnderlying32 (by intro w; simp [Tryd.sizeOf3, Tryd.sizeOf5]) rfl rfl) rfl fun a w hS => bsl (g := T_api_Token.cells) ([(T_api_Token.mk (97 : Int) (0 : Int) (0 : Int))] : List T_api_Token) [.agg ⟨[.int .u8 (97 : Int), .int .i64 (0 : Int), .int .i64 (0 : Int)]⟩] hS Tryd.runUnderlying25 Tryd.sizeOf32 X.el32 rfl rfl rfl (by simp [Value.cells]) rfl rfl rfl rfl rfl fun w A3 c4 f5 hV6 hS => s_call hS rfl Tryd.call12 (deflate_Fixed_c hG K ([(T_api_Token.mk (97 : Int) (0 : Int) (0 : Int))] : List T_api_Token) A3 c4 (hV6.rdF (i := 0) rfl) (hV6.cap (fun _ => rfl) rfl) (hS.st.part 0 [0] (by kernel_rfl)) (wp_bind hM) (fun x1208 x1209 w hM  hst => s_back hS.ev hst.appF rfl fun hS => ?_))
 replace hS : Ss _ _ _ H [f5] F _ _ := hS
 refine st1 hS (mv rfl) rfl fun a w hS => st1 hS (ex rfl rfl) rfl fun a w hS => st1 hS (ex rfl rfl) rfl fun a w hS => st1 hS (asg rfl) rfl fun a w hS => st1 hS (asg rfl) rfl fun a w hS => wpList_nil <| then_n <| wp_seq <| wp_region_list <| st1 hS (bld ([.int .u8 (0 : Int), .int .i64 (1 : Int), .int .i64 (0 : Int)]) [(0, 1), (1, 1), (2, 1)] Tryd.zeroValue32 Tryd.runUnderlying32 (by intro w; simp [Tryd.sizeOf3, Tryd.sizeOf5]) rfl rfl) rfl fun a w hS => bsl (g := T_api_Token.cells) ([(T_api_Token.mk (0 : Int) (1 : Int) (0 : Int))] : List T_api_Token) [.agg ⟨[.int .u8 (0 : Int), .int .i64 (1 : Int), .int .i64 (0 : Int)]⟩] hS Tryd.runUnderlying25 Tryd.sizeOf32 X.el32 rfl rfl rfl (by simp [Value.cells]) rfl rfl rfl rfl rfl fun w A1210 c1211 f1212 hV1213 hS => s_call hS rfl Tryd.call14 (deflate_Dynamic_c hG K ([(T_api_Token.mk (0 : Int) (1 : Int) (0 : Int))] : List T_api_Token) A1210 c1211 (hV1213.rdF (i := 0) rfl) (hV1213.cap (fun _ => rfl) rfl) (hS.st.part 0 [0, 1] (by kernel_rfl)) (wp_bind hM) (fun x5755 x5756 w hM  hst => s_back hS.ev hst.appF rfl fun hS => ?_) (fun v w hk hst => s_pan (then_pan (⟨hS.ev.defs, hpan _ _ hk hst.appF.frame⟩))))
 replace hS : Ss _ _ _ H [f1212, f5] F _ _ := hS
 refine st1 hS (mv rfl) rfl fun a w hS => st1 hS (ex rfl rfl) rfl fun a w hS => st1 hS (ex rfl rfl) rfl fun a w hS => st1 hS (asg rfl) rfl fun a w hS => st1 hS (asg rfl) rfl fun a w hS => wpList_nil <| then_n <| wp_seq <| wp_region_list <| s_call hS rfl Tryd.call10 (deflate_Stored_c hG K ([] : List UInt8) (hS.st.part 0 [0, 1] (by kernel_rfl)) (wp_bind hM) (fun x5827 w hM  hst => s_back hS.ev hst.appF rfl fun hS => ?_))
 replace hS : Ss _ _ _ H [f1212, f5] F _ _ := hS
 refine st1 hS (bins rfl rfl rfl) rfl fun a w hS => st1 hS (mv rfl) rfl fun a w hS => g_op 2 true 19 (b := (x5827 == ([1, 0, 0, 255, 255] : List UInt8))) (r := (x1208 == ([75, 4, 0] : List UInt8))) hS rfl rfl rfl rfl rfl rfl rfl (fun hb a w hS K hK => ?_) rfl fun a w hS => ?_
 ·refine st1g hS rfl rfl rfl hb (mv rfl) rfl fun a w hS => ?_
  refine st1g hS rfl rfl rfl hb (bins rfl rfl rfl) rfl fun a w hS => ?_
  exact wpList_nil (hK _ _ (hS.up 2 rfl rfl))
 refine st1 hS (mv rfl) rfl fun a w hS => g_op 2 true 23 (b := ((x5827 == ([1, 0, 0, 255, 255] : List UInt8)) && (x1208 == ([75, 4, 0] : List UInt8)))) (r := (x1209 == (0 : Int))) hS rfl rfl rfl rfl rfl rfl rfl (fun hb a w hS K hK => ?_) rfl fun a w hS => ?_
 ·refine st1g hS rfl rfl rfl hb (mv rfl) rfl fun a w hS => ?_
  refine st1g hS rfl rfl rfl hb (bin rfl rfl rfl) rfl fun a w hS => ?_
  exact wpList_nil (hK _ _ (hS.up 2 rfl rfl))
 refine st1 hS (mv rfl) rfl fun a w hS => g_op 2 true 27 (b := (((x5827 == ([1, 0, 0, 255, 255] : List UInt8)) && (x1208 == ([75, 4, 0] : List UInt8))) && (x1209 == (0 : Int)))) (r := (x5756 == (1 : Int))) hS rfl rfl rfl rfl rfl rfl rfl (fun hb a w hS K hK => ?_) rfl fun a w hS => ?_
 ·refine st1g hS rfl rfl rfl hb (mv rfl) rfl fun a w hS => ?_
  refine st1g hS rfl rfl rfl hb (bin rfl rfl rfl) rfl fun a w hS => ?_
  exact wpList_nil (hK _ _ (hS.up 2 rfl rfl))
 refine st1 hS (mv rfl) rfl fun a w hS => seg_cutJ (fun a w => ∃ (v6137 : Bool), Ss 35 [] [(34, .bool v6137)] H [] F a w ∧ (mortiselaw09_live.j1 K v6137).wp kr kp) 3 (fun J6138 hJ6138 => ?_) ?_
 ·refine ifB (b := ((((x5827 == ([1, 0, 0, 255, 255] : List UInt8)) && (x1208 == ([75, 4, 0] : List UInt8))) && (x1209 == (0 : Int))) && (x5756 == (1 : Int)))) hM (fun hb5828 hM => ?_) (fun hb5828 hM => ?_)
  ·replace hS := hS.re 30 (v := .bool true) rfl (congrArg Value.bool hb5828)
   replace hS := hS.re 31 (v := .bool true) rfl (congrArg Value.bool hb5828)
   refine unguard hS rfl rfl rfl rfl <| s_call hS rfl Tryd.call18 (deflate_Deflate_c hG K ([] : List UInt8) (hS.st.part 0 [0, 1] (by kernel_rfl)) (wp_bind hM) (fun x6136 w hM  hst => s_back hS.ev hst.appF rfl fun hS => ?_) (fun v w hk hst => s_pan (then_pan (then_pan (⟨hS.ev.defs, hpan _ _ hk hst.appF.frame⟩)))))
   replace hS : Ss _ _ _ H [f1212, f5] F _ _ := hS
   refine st1g hS rfl rfl rfl rfl (bins rfl rfl rfl) rfl fun a w hS => st1 hS (pk rfl rfl rfl) rfl fun a w hS => wpList_nil <| then_n ?_
   exact hJ6138 _ _ ⟨(!(x6136 == ([] : List UInt8))), hS.to [] (by kernel_rfl) ⟨rfl, trivial⟩, hM⟩
  ·replace hS := hS.re 30 (v := .bool false) rfl (congrArg Value.bool hb5828)
   replace hS := hS.re 31 (v := .bool false) rfl (congrArg Value.bool hb5828)
   refine skips 2 hS rfl fun a w hS => st1 hS (pk rfl rfl rfl) rfl fun a w hS => wpList_nil <| then_n ?_
   exact hJ6138 _ _ ⟨false, hS.to [] (by kernel_rfl) ⟨rfl, trivial⟩, hM⟩
 ·intro a w hI
  obtain ⟨v6137, hS, hM⟩ := hI
  rw [mortiselaw09_live.j1] at hM
  refine st1 hS (asg rfl) rfl fun a w hS => wpList_nil <| then_n <| wp_ret ?_
  exact s_ret (rs := [0]) hS rfl rfl (hret v6137 w (wp_ok hM) (hS.st.pick [] (by kernel_rfl)))

theorem mortiseref09_Stored_c {H : Imm} {F : List Frag} {w : World} {R : Ending → World → Prop} {kr : (List UInt8) → Prop} {kp : Value → Prop} (hG : Gl H) (K : Nat) (s6142 : List UInt8)
    (hS : St w H [] F) (hm : (mortiseref09_Stored.m K s6142).wp kr kp)
    (hret : ∀ (x6211 : List UInt8) (w : World), kr x6211 → St w H [] F → R (.returned (str x6211)) w) :
    Calls Tryd.prog 11 ⟨[str s6142]⟩ w R := by
 refine enter Tryd.func11 rfl Tryd.ntmps11 rfl hS fun a w hS => ?_
 have hM := hm; clear hm
 rw [mortiseref09_Stored.m] at hM
 refine wp_seq <| wp_region_list <| st1 hS (asg rfl) rfl fun a w hS => wpList_nil <| then_n <| wp_seq <| wp_region_list <| st1 hS (asg rfl) rfl fun a w hS => ?_
 obtain ⟨f6143, hV6144, hS⟩ := hS.nilV 5 (ci .u8) 1
 refine wpList_nil <| then_n <| wp_block <| s_loopJ (fun k6184 a w => ∃ (s6178 : List UInt8) (A6179 : Option Addr) (c6180 : Nat) (out6181 : (List Int)) (f6182 : Frag), Ss 43 [] [(0, str s6178), (3, .slice A6179 out6181.length c6180)] H [f6182] F a w ∧ (Vec 5 (ci .u8) 1 A6179 out6181 c6180 f6182) ∧ (mortiseref09_Stored.l1 K k6184 s6178 out6181).wp kr kp) K ?_ ?_ ?_
 ·exact ⟨s6142, none, 0, ([] : List Int), f6143, hS.to [0] (by kernel_rfl) ⟨rfl, rfl, trivial⟩, hV6144, hM⟩
 ·intro a w hI; obtain ⟨_, _, _, _, _, _, _, hM⟩ := hI; exact wp_fail hM
 ·intro k6184 a w hI J6210 hJ6210
  obtain ⟨s6178, A6179, c6180, out6181, f6182, hS, hV6183, hM⟩ := hI
  rw [mortiseref09_Stored.l1] at hM
  refine wp_block <| wp_seq <| wp_region_list <| st1 hS (mv rfl) rfl fun a w hS => st1 hS (lenS rfl Tryd.runUnderlying9) rfl fun a w hS => st1 hS (minI rfl rfl) rfl fun a w hS => st1x (v := Value.int .i64) (x0 := (if (s6178.length : Int) < (65535 : Int) then (s6178.length : Int) else (65535 : Int))) hS (asg rfl) rfl fun n_6185 a w hz hS => ?_
  have hM := lt_to hz hM; clear hz
  refine wpList_nil <| then_n <| wp_seq <| wp_region_list <| st1 hS (asg rfl) rfl fun a w hS => wpList_nil <| then_n <| seq_joinJ (fun a w => ∃ (last6187 : Int), Ss 43 [] [(0, str s6178), (3, .slice A6179 out6181.length c6180), (4, .int .i64 n_6185), (5, .int .u8 last6187)] H [f6182] F a w ∧ (mortiseref09_Stored.j2 K (mortiseref09_Stored.l1 K k6184) s6178 out6181 n_6185 last6187).wp kr kp) (fun J6188 hJ6188 => ?_) ?_
  ·refine wp_seq ?_
   refine wp_region_list <| st1 hS (mv rfl) rfl fun a w hS => st1 hS (mv rfl) rfl fun a w hS => st1 hS (lenS rfl Tryd.runUnderlying9) rfl fun a w hS => st1 hS (bin rfl rfl rfl) rfl fun a w hS => wpList_nil <| then_n <| s_cond hS rfl hM (fun hb6186 hM => ?_) (fun hb6186 hM => ?_)
   ·refine wp_region_list ?_
    refine st1 hS (asg rfl) rfl fun a w hS => wpList_nil <| then_n ?_
    exact hJ6188 _ _ ⟨(1 : Int), hS.to [0] (by kernel_rfl) ⟨rfl, rfl, rfl, rfl, trivial⟩, hM⟩
   ·refine wp_skip ?_
    refine then_n ?_
    exact hJ6188 _ _ ⟨(0 : Int), hS.to [0] (by kernel_rfl) ⟨rfl, rfl, rfl, rfl, trivial⟩, hM⟩
  ·intro a w hI
   obtain ⟨last6187, hS, hM⟩ := hI
   rw [mortiseref09_Stored.j2] at hM
   refine wp_seq <| wp_region_list <| st1 hS (mv rfl) rfl fun a w hS => st1 hS (mv rfl) rfl fun a w hS => st1 hS (mv rfl) rfl fun a w hS => st1 hS (rem rfl rfl rfl) rfl fun a w hS => st1 hS (cvi rfl Tryd.runUnderlying3 Tryd.runUnderlying5) rfl fun a w hS => st1 hS (mv rfl) rfl fun a w hS => st1 hS (quo rfl rfl rfl) rfl fun a w hS => st1 hS (cvi rfl Tryd.runUnderlying3 Tryd.runUnderlying5) rfl fun a w hS => st1 hS (mv rfl) rfl fun a w hS => st1 hS (rem rfl rfl rfl) rfl fun a w hS => st1 hS (bin rfl rfl rfl) rfl fun a w hS => st1 hS (cvi rfl Tryd.runUnderlying3 Tryd.runUnderlying5) rfl fun a w hS => st1 hS (mv rfl) rfl fun a w hS => st1 hS (quo rfl rfl rfl) rfl fun a w hS => st1 hS (bin rfl rfl rfl) rfl fun a w hS => st1 hS (cvi rfl Tryd.runUnderlying3 Tryd.runUnderlying5) rfl fun a w hS => bsl (g := (ci .u8)) ([last6187, (wr .u8 (irem n_6185 (256 : Int))), (wr .u8 (iquo .i64 n_6185 (256 : Int))), (wr .u8 (w64 ((255 : Int) - (irem n_6185 (256 : Int))))), (wr .u8 (w64 ((255 : Int) - (iquo .i64 n_6185 (256 : Int)))))] : List Int) [.int .u8 last6187, .int .u8 (wr .u8 (irem n_6185 (256 : Int))), .int .u8 (wr .u8 (iquo .i64 n_6185 (256 : Int))), .int .u8 (wr .u8 (w64 ((255 : Int) - (irem n_6185 (256 : Int))))), .int .u8 (wr .u8 (w64 ((255 : Int) - (iquo .i64 n_6185 (256 : Int)))))] hS Tryd.runUnderlying38 Tryd.sizeOf5 X.el5 rfl rfl rfl (by simp [Value.cells]) rfl rfl rfl rfl rfl fun w A6189 c6190 f6191 hV6192 hS => ?_
   obtain ⟨hk6193, hM⟩ := wp_chk hM
   refine apV (ys := ([last6187, (wr .u8 (irem n_6185 (256 : Int))), (wr .u8 (iquo .i64 n_6185 (256 : Int))), (wr .u8 (w64 ((255 : Int) - (irem n_6185 (256 : Int))))), (wr .u8 (w64 ((255 : Int) - (iquo .i64 n_6185 (256 : Int)))))] : List Int)) 1 hS rfl rfl hV6183 rfl (hV6192.rd (i := 0) rfl) Tryd.runUnderlying38 Tryd.runUnderlying38 X.el5 (fun _ => rfl) rfl one_t5 hk6193 rfl fun zs6198 w A6194 c6195 f6196 hz hV6197 hS => ?_
   have hM := lt_to hz hM; clear hz
   refine st1 hS (asg rfl) rfl fun a w hS => wpList_nil <| then_n <| wp_seq <| wp_region_list <| st1 hS (mv rfl) rfl fun a w hS => st1 hS (mv rfl) rfl fun a w hS => st1 hS (mv rfl) rfl fun a w hS => ?_
   obtain ⟨hk6199, hM⟩ := wp_chk hM
   refine st1 hS (slS rfl Tryd.runUnderlying9 lo0 (hiS rfl) hk6199) rfl fun a w hS => ?_
   obtain ⟨hk6200, hM⟩ := wp_chk hM
   refine apS 1 hS rfl rfl hV6197 rfl Tryd.runUnderlying38 Tryd.runUnderlying9 X.el5 rfl hk6200 rfl fun zs6205 w A6201 c6202 f6203 hz hV6204 hS => ?_
   have hM := lt_to hz hM; clear hz
   refine st1 hS (asg rfl) rfl fun a w hS => wpList_nil <| then_n <| wp_seq <| wp_region_list <| st1 hS (mv rfl) rfl fun a w hS => st1 hS (mv rfl) rfl fun a w hS => ?_
   obtain ⟨hk6206, hM⟩ := wp_chk hM
   refine st1 hS (slS rfl Tryd.runUnderlying9 (loS rfl) hi0 hk6206) rfl fun a w hS => st1x (v := str) (x0 := (sub s6178 n_6185 (s6178.length : Int))) hS (asg rfl) rfl fun s6207 a w hz hS => ?_
   have hM := lt_to hz hM; clear hz
   refine wpList_nil <| then_n <| wp_seq <| wp_region_list <| st1 hS (mv rfl) rfl fun a w hS => st1 hS (bin rfl rfl rfl) rfl fun a w hS => wpList_nil <| then_n <| s_cond hS rfl hM (fun hb6208 hM => ?_) (fun hb6208 hM => ?_)
   ·refine wp_seq ?_
    refine wp_region_list <| st1 hS (mv rfl) rfl fun a w hS => st1 hS (cbs rfl Tryd.runUnderlying38 Tryd.runUnderlying5 Tryd.runUnderlying9 (hV6204.rd (i := 1) rfl)) rfl fun a w hS => st1x (v := str) (x0 := (zs6205.map tob)) hS (asg rfl) rfl fun v6209 a w hz hS => ?_
    have hM := lt_to hz hM; clear hz
    refine wpList_nil <| then_n <| wp_ret <| blk_ret (then_ret (blk_ret ?_))
    exact s_ret (rs := [2]) hS rfl rfl (hret v6209 w (wp_ok hM) (hS.st.pick [] (by kernel_rfl)))
   ·refine wp_skip ?_
    refine blk_n (then_n ?_)
    exact hJ6210 _ _ ⟨s6207, A6201, c6202, zs6205, f6203, hS.to [1] (by kernel_rfl) ⟨rfl, rfl, trivial⟩, hV6204, hM⟩

theorem mortiselaw09_DeflateStored_c {H : Imm} {F : List Frag} {w : World} {R : Ending → World → Prop} {kr : Bool → Prop} {kp : Value → Prop} (hG : Gl H) (K : Nat) (s1 : List UInt8)
    (hS : St w H [] F) (hm : (mortiselaw09_DeflateStored.m K s1).wp kr kp)
    (hret : ∀ (x6217 : Bool) (w : World), kr x6217 → St w H [] F → R (.returned (.bool x6217)) w)
    (hpan : ∀ v w, kp v → St w H [] F → R (.panicked [⟨v, false, false⟩]) w) :
    Calls Tryd.prog 3 ⟨[str s1]⟩ w R := by
 refine enter Tryd.func3 rfl Tryd.ntmps3 rfl hS fun a w hS => ?_
 have hM := hm; clear hm
 rw [mortiselaw09_DeflateStored.m] at hM
 refine wp_seq <| wp_region_list <| st1 hS (asg rfl) rfl fun a w hS => wpList_nil <| then_n <| wp_seq <| wp_seq <| wp_region_list <| st1 hS (mv rfl) rfl fun a w hS => st1 hS (lenS rfl Tryd.runUnderlying9) rfl fun a w hS => st1 hS (bin rfl rfl rfl) rfl fun a w hS => wpList_nil <| then_n <| s_cond hS rfl hM (fun hb2 hM => ?_) (fun hb2 hM => ?_)
 ·refine wp_seq ?_
  refine wp_region_list <| s_call hS rfl Tryd.call9 (mortiselaw09_live_c hG K  (hS.st.part 0 [] (by kernel_rfl)) (wp_bind hM) (fun x6140 w hM  hst => s_back hS.ev hst.appF rfl fun hS => ?_) (fun v w hk hst => s_pan (then_pan (then_pan (⟨hS.ev.defs, hpan _ _ hk hst.appF.frame⟩)))))
  replace hS : Ss _ _ _ H [] F _ _ := hS
  refine st1 hS (asg rfl) rfl fun a w hS => wpList_nil <| then_n <| wp_ret <| then_ret ?_
  exact s_ret (rs := [2]) hS rfl rfl (hret x6140 w (wp_ok hM) (hS.st.pick [] (by kernel_rfl)))
 ·refine wp_skip ?_
  refine then_n <| wp_seq <| wp_region_list <| st1 hS (mv rfl) rfl fun a w hS => s_call hS rfl Tryd.call10 (deflate_Stored_c hG K s1 (hS.st.part 0 [] (by kernel_rfl)) (wp_bind hM) (fun x6141 w hM  hst => s_back hS.ev hst.appF rfl fun hS => ?_))
  replace hS : Ss _ _ _ H [] F _ _ := hS
  refine st1 hS (mv rfl) rfl fun a w hS => s_call hS rfl Tryd.call11 (mortiseref09_Stored_c hG K s1 (hS.st.part 0 [] (by kernel_rfl)) (wp_bind hM) (fun x6212 w hM  hst => s_back hS.ev hst.appF rfl fun hS => ?_))
  replace hS : Ss _ _ _ H [] F _ _ := hS
  refine st1 hS (bins rfl rfl rfl) rfl fun a w hS => st1 hS (mv rfl) rfl fun a w hS => seg_cutJ (fun a w => ∃ (v6215 : Bool), Ss 15 [] [(14, .bool v6215)] H [] F a w ∧ (mortiselaw09_DeflateStored.j1 K v6215).wp kr kp) 2 (fun J6216 hJ6216 => ?_) ?_
  ·refine ifB (b := (x6141 == x6212)) hM (fun hb6213 hM => ?_) (fun hb6213 hM => ?_)
   ·replace hS := hS.re 11 (v := .bool true) rfl (congrArg Value.bool hb6213)
    replace hS := hS.re 12 (v := .bool true) rfl (congrArg Value.bool hb6213)
    refine unguard hS rfl rfl rfl rfl <| s_call hS rfl Tryd.call9 (mortiselaw09_live_c hG K  (hS.st.part 0 [] (by kernel_rfl)) (wp_bind hM) (fun x6214 w hM  hst => s_back hS.ev hst.appF rfl fun hS => ?_) (fun v w hk hst => s_pan (then_pan (then_pan (⟨hS.ev.defs, hpan _ _ hk hst.appF.frame⟩)))))
    replace hS : Ss _ _ _ H [] F _ _ := hS
    refine st1 hS (pk rfl rfl rfl) rfl fun a w hS => wpList_nil <| then_n ?_
    exact hJ6216 _ _ ⟨x6214, hS.to [] (by kernel_rfl) ⟨rfl, trivial⟩, hM⟩
   ·replace hS := hS.re 11 (v := .bool false) rfl (congrArg Value.bool hb6213)
    replace hS := hS.re 12 (v := .bool false) rfl (congrArg Value.bool hb6213)
    refine skips 1 hS rfl fun a w hS => st1 hS (pk rfl rfl rfl) rfl fun a w hS => wpList_nil <| then_n ?_
    exact hJ6216 _ _ ⟨false, hS.to [] (by kernel_rfl) ⟨rfl, trivial⟩, hM⟩
  ·intro a w hI
   obtain ⟨v6215, hS, hM⟩ := hI
   rw [mortiselaw09_DeflateStored.j1] at hM
   refine st1 hS (asg rfl) rfl fun a w hS => wpList_nil <| then_n <| wp_ret ?_
   exact s_ret (rs := [2]) hS rfl rfl (hret v6215 w (wp_ok hM) (hS.st.pick [] (by kernel_rfl)))
end Go.TrydS
