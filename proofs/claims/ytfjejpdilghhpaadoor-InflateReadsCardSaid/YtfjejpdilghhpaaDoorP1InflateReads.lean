/- Printed by a program of mine: each Go function answers what its model answers; conditions: what each theorem asks of memory. -/
import Derived.Test.YtfjejpdilghhpaaDoorMInflateReads
import Derived.Test.YtfjejpdilghhpaaDoorChecked
set_option linter.unusedVariables false
set_option linter.unusedSimpArgs false
namespace Go.TrydS
open Go Go.Sl Go.Mo Go.Proofs
theorem mixed : Tryd.prog.follows .mixedOrders = true := by kernel_rfl
def _root_.Go.Mo.T_bits_place.cells (x : T_bits_place) : List Value := [.int .i64 x.at_]
def _root_.Go.Mo.T_bits_Reader.cells (x : T_bits_Reader) : List Value := [.int .i64 x.place_.at_, str x.text_]
def _root_.Go.Mo.T_inflate_run.cells (x : T_inflate_run) : List Value := [.int .i64 x.from_, .int .i64 x.bits_]
def _root_.Go.Mo.T_mortiseref05_Reader.cells (x : T_mortiseref05_Reader) : List Value := [str x.S_, .int .i64 x.At_]
theorem X.el3 : El Tryd.prog 3 1 8 := ⟨_, _, Tryd.typeInfo3, rfl, rfl, rfl, rfl⟩
theorem X.el5 : El Tryd.prog 5 1 1 := ⟨_, _, Tryd.typeInfo5, rfl, rfl, rfl, rfl⟩
theorem one_t3 : ∀ x, ∀ u ∈ (ci .i64) x, u.oneCell' = true := fun x u hu => by cases hu with | head => rfl | tail _ h => cases h
theorem one_t5 : ∀ x, ∀ u ∈ (ci .u8) x, u.oneCell' = true := fun x u hu => by cases hu with | head => rfl | tail _ h => cases h
structure Gl (H : Imm) : Prop where
  g0 : ∃ T fr, H 0 = some (.cells ⟨tab_inflate_lengths.flatMap T_inflate_run.cells⟩ T fr)
  g1 : ∃ T fr, H 1 = some (.cells ⟨tab_inflate_distances.flatMap T_inflate_run.cells⟩ T fr)
  g2 : ∃ T fr, H 2 = some (.cells ⟨tab_inflate_order.flatMap (ci .i64)⟩ T fr)

theorem bits_New_c {H : Imm} {F : List Frag} {w : World} {R : Ending → World → Prop} {kr : Unit → Prop} {kp : Value → Prop} (hG : Gl H) (K : Nat) (s35 : List UInt8)
    (hS : St w H [] F) (hm : (bits_New.m K s35).wp kr kp)
    (hret : ∀ (b39 : Nat) (f40 : Frag) (w : World), kr () → (Blk f40 b39 ([.int .i64 (0 : Int), str s35]) 57) → St w H [f40] F → R (.returned (ptr b39 0)) w) :
    Calls Tryd.prog 17 ⟨[str s35]⟩ w R := by
  refine enter Tryd.func17 rfl Tryd.ntmps17 rfl hS fun a w hS => ?_
  have hM := hm; clear hm
  rw [bits_New.m] at hM
  refine wp_seq ?_
  refine wp_region_list ?_
  refine st1 hS (asg rfl) rfl fun a w hS => ?_
  refine wpList_nil ?_
  refine then_n ?_
  refine wp_seq ?_
  refine wp_region_list ?_
  refine st1 hS (mv rfl) rfl fun a w hS => ?_
  refine st1 hS (bld ([.int .i64 (0 : Int), str s35]) [(0, 1), (1, 1)] Tryd.zeroValue57 Tryd.runUnderlying57 (by intro w; simp [Tryd.sizeOf55, Tryd.sizeOf9]) rfl rfl) rfl fun a w hS => ?_
  refine bx ([.int .i64 (0 : Int), str s35]) hS rfl rfl rfl fun w b36 f37 hB38 hS => ?_
  refine st1 hS (asg rfl) rfl fun a w hS => ?_
  refine wpList_nil ?_
  refine then_n ?_
  refine wp_ret ?_
  exact s_ret (rs := [2]) hS rfl rfl (hret b36 f37 w hM hB38 (hS.st.pick [0] (by kernel_rfl)))

theorem bits_Reader_Bits_c {H : Imm} {F : List Frag} {w : World} {R : Ending → World → Prop} {kr : (Int × Int × Int) → Prop} {kp : Value → Prop} (hG : Gl H) (K : Nat) (r74 : T_bits_Reader) (n_78 : Int) (b75 : Nat) (f76 : Frag) (hB77 : Blk f76 b75 ([.int .i64 r74.place_.at_, str r74.text_]) 57)
    (hS : St w H [f76] F) (hm : (bits_Reader_Bits.m K r74 n_78).wp kr kp)
    (hret : ∀ (x102 : Int) (x103 : Int) (at_104 : Int) (f105 : Frag) (w : World), kr (x102, x103, at_104) → (Blk f105 b75 ([.int .i64 at_104, str r74.text_]) 57) → St w H [f105] F → R (.returned (.tuple ⟨[.int .u32 x102, .int .i64 x103]⟩)) w) :
    Calls Tryd.prog 33 ⟨[ptr b75 0, .int .i64 n_78]⟩ w R := by
  refine enter Tryd.func33 rfl Tryd.ntmps33 rfl hS fun a w hS => ?_
  have hM := hm; clear hm
  rw [bits_Reader_Bits.m] at hM
  refine wp_seq ?_
  refine wp_region_list ?_
  refine st1 hS (asg rfl) rfl fun a w hS => ?_
  refine st1 hS (asg rfl) rfl fun a w hS => ?_
  refine wpList_nil ?_
  refine then_n ?_
  refine wp_seq ?_
  refine wp_block ?_
  refine wp_seq ?_
  refine wp_region_list ?_
  refine st1 hS (mv rfl) rfl fun a w hS => ?_
  refine st1 hS (eqNil rfl rfl Tryd.runUnderlying41) rfl fun a w hS => ?_
  refine st1 hS (mv rfl) rfl fun a w hS => ?_
  refine st1g hS rfl rfl rfl rfl (mv rfl) rfl fun a w hS => ?_
  refine st1g hS rfl rfl rfl rfl (bin rfl rfl rfl) rfl fun a w hS => ?_
  refine st1 hS (pk rfl rfl rfl) rfl fun a w hS => ?_
  refine st1 hS (mv rfl) rfl fun a w hS => ?_
  refine g_op 2 false 16 (b := (decide (n_78 < (0 : Int)))) (r := (decide (n_78 > (32 : Int)))) hS rfl rfl rfl rfl rfl rfl rfl (fun hb a w hS K hK => ?_) rfl fun a w hS => ?_
  · refine st1g hS rfl rfl rfl hb (mv rfl) rfl fun a w hS => ?_
    refine st1g hS rfl rfl rfl hb (bin rfl rfl rfl) rfl fun a w hS => ?_
    exact wpList_nil (hK _ _ (hS.up 2 rfl rfl))
  refine st1x (v := Value.bool) hS (asg rfl) rfl fun v79 a w hz hS => ?_
  have hM := lt_to hz hM; clear hz
  refine wpList_nil ?_
  refine then_n ?_
  refine s_cond hS rfl hM (fun hb80 hM => ?_) (fun hb80 hM => ?_)
  · refine wp_seq ?_
    refine wp_region_list ?_
    refine st1 hS (asg rfl) rfl fun a w hS => ?_
    refine st1 hS (asg rfl) rfl fun a w hS => ?_
    refine wpList_nil ?_
    refine then_n ?_
    refine wp_ret ?_
    refine blk_ret (then_ret ?_)
    exact s_ret (rs := [4, 5]) hS rfl rfl (hret (0 : Int) (1 : Int) r74.place_.at_ f76 w hM hB77 (hS.st.pick [0] (by kernel_rfl)))
  · refine wp_seq ?_
    obtain ⟨v81, hz82⟩ : ∃ x, x = (decide (n_78 > (w64 ((w64 ((8 : Int) * (r74.text_.length : Int))) - r74.place_.at_)))) := ⟨_, rfl⟩
    replace hM := lt_to hz82 hM
    refine draw_begin (vals := [some (.int .i64 n_78), some (ptr b75 0), some (ptr b75 0), some (ptr b75 1), some (str r74.text_), some (.int .i64 (r74.text_.length : Int)), some (.int .i64 (w64 ((8 : Int) * (r74.text_.length : Int)))), some (ptr b75 0), some (ptr b75 0), some (ptr b75 0), some (ptr b75 0), some (.int .i64 r74.place_.at_), some (.int .i64 (w64 ((w64 ((8 : Int) * (r74.text_.length : Int))) - r74.place_.at_))), some (.bool (decide (n_78 > (w64 ((w64 ((8 : Int) * (r74.text_.length : Int))) - r74.place_.at_))))), some (.bool v81)]) hS mixed rfl ?_
    intro l w ho hcl hA hst
    refine phaseE (vals := [some (.int .i64 n_78), some (ptr b75 0), some (ptr b75 0), some (ptr b75 1), some (str r74.text_), some (.int .i64 (r74.text_.length : Int)), some (.int .i64 (w64 ((8 : Int) * (r74.text_.length : Int)))), some (ptr b75 0), some (ptr b75 0), some (ptr b75 0), some (ptr b75 0), some (.int .i64 r74.place_.at_), some (.int .i64 (w64 ((w64 ((8 : Int) * (r74.text_.length : Int))) - r74.place_.at_))), some (.bool (decide (n_78 > (w64 ((w64 ((8 : Int) * (r74.text_.length : Int))) - r74.place_.at_))))), some (.bool v81)]) [] [0, 1, 2, 3, 4, 5, 6, 7, 8, 9, 10, 11, 12, 13, 14] rfl rfl rfl (by exact ⟨nR rfl rfl rfl rfl rfl (by exact ovE (mv rfl) rfl), nR rfl rfl rfl rfl rfl (by exact ovE (mv rfl) rfl), nR rfl rfl rfl rfl rfl (by exact ovE (nck rfl) rfl), nR rfl rfl rfl rfl rfl (by exact ovE (fad rfl Tryd.runUnderlying57 rfl Tryd.sizeOf9 rfl) rfl), nR rfl rfl rfl rfl rfl (by exact ovE (ldb 0 rfl hB77 rfl rfl Tryd.isAgg9) rfl), nR rfl rfl rfl rfl rfl (by exact ovE (lenS rfl Tryd.runUnderlying9) rfl), nR rfl rfl rfl rfl rfl (by exact ovE (bin rfl rfl rfl) rfl), nR rfl rfl rfl rfl rfl (by exact ovE (mv rfl) rfl), nR rfl rfl rfl rfl rfl (by exact ovE (nck rfl) rfl), nR rfl rfl rfl rfl rfl (by exact ovE (fad rfl Tryd.runUnderlying57 rfl Tryd.sizeOf55 rfl) rfl), nR rfl rfl rfl rfl rfl (by exact ovE (fad rfl Tryd.runUnderlying55 rfl Tryd.sizeOf3 rfl) rfl), nR rfl rfl rfl rfl rfl (by exact ovE (ldb 0 rfl hB77 rfl rfl Tryd.isAgg3) rfl), nR rfl rfl rfl rfl rfl (by exact ovE (bin rfl rfl rfl) rfl), nR rfl rfl rfl rfl rfl (by exact ovE (bin rfl rfl rfl) rfl), nR rfl rfl rfl rfl rfl (by exact ovE (asg rfl) (congrArg (Value.bool) hz82.symm)), trivial⟩) (fun a w hS => ?_) ho hcl (fun m hm => (List.not_mem_nil hm).elim) hA hst
    replace hS := hS.env2 (e' := [(0, ptr b75 0), (1, .int .i64 n_78), (20, .bool v81)]) ⟨rfl, rfl, rfl, trivial⟩
    refine then_n ?_
    refine s_cond hS rfl hM (fun hb83 hM => ?_) (fun hb83 hM => ?_)
    · refine wp_seq ?_
      refine wp_region_list ?_
      refine st1 hS (asg rfl) rfl fun a w hS => ?_
      refine st1 hS (asg rfl) rfl fun a w hS => ?_
      refine wpList_nil ?_
      refine then_n ?_
      refine wp_ret ?_
      refine blk_ret (then_ret ?_)
      exact s_ret (rs := [4, 5]) hS rfl rfl (hret (0 : Int) (2 : Int) r74.place_.at_ f76 w hM hB77 (hS.st.pick [0] (by kernel_rfl)))
    · refine wp_skip ?_
      refine blk_n (then_n ?_)
      refine wp_seq ?_
      refine wp_region_list ?_
      refine st1 hS (asg rfl) rfl fun a w hS => ?_
      refine wpList_nil ?_
      refine then_n ?_
      refine wp_seq ?_
      refine wp_region_list ?_
      refine st1 hS (mv rfl) rfl fun a w hS => ?_
      refine st1 hS (nck rfl) rfl fun a w hS => ?_
      refine st1 hS (fad rfl Tryd.runUnderlying57 rfl Tryd.sizeOf55 rfl) rfl fun a w hS => ?_
      refine st1 hS (fad rfl Tryd.runUnderlying55 rfl Tryd.sizeOf3 rfl) rfl fun a w hS => ?_
      refine st1 hS (ldb 0 rfl hB77 rfl rfl Tryd.isAgg3) rfl fun a w hS => ?_
      refine st1 hS (quo rfl rfl rfl) rfl fun a w hS => ?_
      refine st1x (v := Value.int .i64) hS (asg rfl) rfl fun first84 a w hz hS => ?_
      have hM := lt_to hz hM; clear hz
      refine wpList_nil ?_
      refine then_n ?_
      refine seq_joinJ (fun a w => ∃ (v94 : Int), Ss 93 [] [(0, ptr b75 0), (1, .int .i64 n_78), (6, .int .u64 v94)] H [f76] F a w ∧ (bits_Reader_Bits.j2 K r74 n_78 v94).wp kr kp) (fun J95 hJ95 => ?_) ?_
      · refine wp_seq ?_
        refine wp_region_list ?_
        refine st1 hS (asg rfl) rfl fun a w hS => ?_
        refine wpList_nil ?_
        refine then_n ?_
        refine wp_block ?_
        refine s_loopJ (fun k87 a w => ∃ (v85 : Int) (i86 : Int), Ss 93 [] [(0, ptr b75 0), (1, .int .i64 n_78), (6, .int .u64 v85), (7, .int .i64 first84), (8, .int .i64 i86)] H [f76] F a w ∧ (bits_Reader_Bits.l1 K r74 n_78 first84 k87 v85 i86).wp kr kp) K ?_ ?_ ?_
        · exact ⟨(0 : Int), (0 : Int), hS.to [0] (by kernel_rfl) ⟨rfl, rfl, rfl, rfl, rfl, trivial⟩, hM⟩
        · intro a w hI; obtain ⟨_, _, _, hM⟩ := hI; exact hM
        · intro k87 a w hI J93 hJ93
          obtain ⟨v85, i86, hS, hM⟩ := hI
          rw [bits_Reader_Bits.l1] at hM
          refine wp_seq ?_
          refine wp_seq ?_
          refine wp_region_list ?_
          refine st1 hS (mv rfl) rfl fun a w hS => ?_
          refine st1 hS (mv rfl) rfl fun a w hS => ?_
          refine st1 hS (bin rfl rfl rfl) rfl fun a w hS => ?_
          refine st1 hS (bin rfl rfl rfl) rfl fun a w hS => ?_
          refine st1 hS (mv rfl) rfl fun a w hS => ?_
          refine st1 hS (nck rfl) rfl fun a w hS => ?_
          refine st1 hS (fad rfl Tryd.runUnderlying57 rfl Tryd.sizeOf55 rfl) rfl fun a w hS => ?_
          refine st1 hS (fad rfl Tryd.runUnderlying55 rfl Tryd.sizeOf3 rfl) rfl fun a w hS => ?_
          refine st1 hS (ldb 0 rfl hB77 rfl rfl Tryd.isAgg3) rfl fun a w hS => ?_
          refine st1 hS (mv rfl) rfl fun a w hS => ?_
          refine st1 hS (bin rfl rfl rfl) rfl fun a w hS => ?_
          refine st1 hS (bin rfl rfl rfl) rfl fun a w hS => ?_
          refine wpList_nil ?_
          refine then_n ?_
          refine s_cond hS rfl hM (fun hb88 hM => ?_) (fun hb88 hM => ?_)
          · refine wp_skip ?_
            refine then_n ?_
            refine wp_seq ?_
            refine wp_block ?_
            refine wp_region_list ?_
            refine st1 hS (mv rfl) rfl fun a w hS => ?_
            refine st1 hS (mv rfl) rfl fun a w hS => ?_
            refine st1 hS (nck rfl) rfl fun a w hS => ?_
            refine st1 hS (fad rfl Tryd.runUnderlying57 rfl Tryd.sizeOf9 rfl) rfl fun a w hS => ?_
            refine st1 hS (ldb 0 rfl hB77 rfl rfl Tryd.isAgg9) rfl fun a w hS => ?_
            refine st1 hS (mv rfl) rfl fun a w hS => ?_
            refine st1 hS (mv rfl) rfl fun a w hS => ?_
            refine st1 hS (bin rfl rfl rfl) rfl fun a w hS => ?_
            obtain ⟨hk89, hM⟩ := wp_chk hM
            refine st1 hS (ixs rfl rfl Tryd.runUnderlying9 hk89) rfl fun a w hS => ?_
            refine st1 hS (cvi rfl Tryd.runUnderlying5 Tryd.runUnderlying98) rfl fun a w hS => ?_
            refine st1 hS (mv rfl) rfl fun a w hS => ?_
            refine st1 hS (bin rfl rfl rfl) rfl fun a w hS => ?_
            obtain ⟨hk90, hM⟩ := wp_chk hM
            refine st1 hS (shl rfl rfl hk90) rfl fun a w hS => ?_
            refine st1 hS (bin rfl rfl rfl) rfl fun a w hS => ?_
            refine st1x (v := Value.int .u64) hS (asg rfl) rfl fun v91 a w hz hS => ?_
            have hM := lt_to hz hM; clear hz
            refine wpList_nil ?_
            refine blk_n (then_n ?_)
            refine wp_region_list ?_
            refine st1 hS (mv rfl) rfl fun a w hS => ?_
            refine st1 hS (bin rfl rfl rfl) rfl fun a w hS => ?_
            refine st1x (v := Value.int .i64) hS (asg rfl) rfl fun i92 a w hz hS => ?_
            have hM := lt_to hz hM; clear hz
            refine wpList_nil ?_
            refine then_n ?_
            exact hJ93 _ _ ⟨v91, i92, hS.to [0] (by kernel_rfl) ⟨rfl, rfl, rfl, rfl, rfl, trivial⟩, hM⟩
          · refine wp_exit ?_
            refine then_ex (then_ex (blk_same (then_n ?_)))
            exact hJ95 _ _ ⟨v85, hS.to [0] (by kernel_rfl) ⟨rfl, rfl, rfl, trivial⟩, hM⟩
      · intro a w hI
        obtain ⟨v94, hS, hM⟩ := hI
        rw [bits_Reader_Bits.j2] at hM
        refine wp_seq ?_
        refine wp_region_list ?_
        refine st1 hS (mv rfl) rfl fun a w hS => ?_
        refine st1 hS (mv rfl) rfl fun a w hS => ?_
        refine st1 hS (nck rfl) rfl fun a w hS => ?_
        refine st1 hS (fad rfl Tryd.runUnderlying57 rfl Tryd.sizeOf55 rfl) rfl fun a w hS => ?_
        refine st1 hS (fad rfl Tryd.runUnderlying55 rfl Tryd.sizeOf3 rfl) rfl fun a w hS => ?_
        refine st1 hS (ldb 0 rfl hB77 rfl rfl Tryd.isAgg3) rfl fun a w hS => ?_
        refine st1 hS (bin rfl rfl rfl) rfl fun a w hS => ?_
        obtain ⟨hk96, hM⟩ := wp_chk hM
        refine st1 hS (shr rfl rfl hk96) rfl fun a w hS => ?_
        refine st1x (v := Value.int .u64) hS (asg rfl) rfl fun v97 a w hz hS => ?_
        have hM := lt_to hz hM; clear hz
        refine wpList_nil ?_
        refine then_n ?_
        refine wp_seq ?_
        refine wp_region_list ?_
        refine st1 hS (mv rfl) rfl fun a w hS => ?_
        refine st1 hS (nck rfl) rfl fun a w hS => ?_
        refine st1 hS (fad rfl Tryd.runUnderlying57 rfl Tryd.sizeOf55 rfl) rfl fun a w hS => ?_
        refine st1 hS (fad rfl Tryd.runUnderlying55 rfl Tryd.sizeOf3 rfl) rfl fun a w hS => ?_
        refine st1 hS (ldb 0 rfl hB77 rfl rfl Tryd.isAgg3) rfl fun a w hS => ?_
        refine st1 hS (mv rfl) rfl fun a w hS => ?_
        refine st1 hS (bin rfl rfl rfl) rfl fun a w hS => ?_
        refine st1 hS (nck rfl) rfl fun a w hS => ?_
        refine st1 hS (fad rfl Tryd.runUnderlying57 rfl Tryd.sizeOf55 rfl) rfl fun a w hS => ?_
        refine st1 hS (fad rfl Tryd.runUnderlying55 rfl Tryd.sizeOf3 rfl) rfl fun a w hS => ?_
        refine sto 0 ([.int .i64 (w64 (r74.place_.at_ + n_78)), str r74.text_]) hS rfl rfl hB77 rfl rfl rfl rfl Tryd.sizeOf3 fun w f98 hB99 hS => ?_
        refine wpList_nil ?_
        refine then_n ?_
        refine wp_seq ?_
        refine wp_region_list ?_
        refine st1 hS (mv rfl) rfl fun a w hS => ?_
        refine st1 hS (mv rfl) rfl fun a w hS => ?_
        obtain ⟨hk100, hM⟩ := wp_chk hM
        refine st1 hS (shl rfl rfl hk100) rfl fun a w hS => ?_
        refine st1 hS (bin rfl rfl rfl) rfl fun a w hS => ?_
        refine st1 hS (bin rfl rfl rfl) rfl fun a w hS => ?_
        refine st1 hS (cvi rfl Tryd.runUnderlying98 Tryd.runUnderlying33) rfl fun a w hS => ?_
        refine st1x (v := Value.int .u32) hS (asg rfl) rfl fun v101 a w hz hS => ?_
        have hM := lt_to hz hM; clear hz
        refine st1 hS (asg rfl) rfl fun a w hS => ?_
        refine wpList_nil ?_
        refine then_n ?_
        refine wp_ret ?_
        exact s_ret (rs := [4, 5]) hS rfl rfl (hret v101 (0 : Int) (w64 (r74.place_.at_ + n_78)) f98 w hM hB99 (hS.st.pick [0] (by kernel_rfl)))

theorem inflate_must_c {H : Imm} {F : List Frag} {w : World} {R : Ending → World → Prop} {kr : Unit → Prop} {kp : Value → Prop} (hG : Gl H) (K : Nat) (e_112 : Int)
    (hS : St w H [] F) (hm : (inflate_must.m K e_112).wp kr kp)
    (hret : ∀ (w : World), kr () → St w H [] F → R (.returned (.tuple ⟨[]⟩)) w)
    (hpan : ∀ v w, kp v → St w H [] F → R (.panicked [⟨v, false, false⟩]) w) :
    Calls Tryd.prog 34 ⟨[.int .i64 e_112]⟩ w R := by
  refine enter Tryd.func34 rfl Tryd.ntmps34 rfl hS fun a w hS => ?_
  have hM := hm; clear hm
  rw [inflate_must.m] at hM
  refine wp_seq ?_
  refine wp_region_list ?_
  refine st1 hS (mv rfl) rfl fun a w hS => ?_
  refine st1 hS (bin rfl rfl rfl) rfl fun a w hS => ?_
  refine wpList_nil ?_
  refine then_n ?_
  refine s_cond hS rfl hM (fun hb113 hM => ?_) (fun hb113 hM => ?_)
  · refine wp_region_list ?_
    refine st1 hS (mv rfl) rfl fun a w hS => ?_
    refine st1 hS (bld ([.int .i64 e_112]) [(0, 1)] Tryd.zeroValue39 Tryd.runUnderlying39 (by intro w; simp [Tryd.sizeOf23]) rfl rfl) rfl fun a w hS => ?_
    refine st1 hS (mkI rfl Tryd.runUnderlying39 rfl) rfl fun a w hS => ?_
    refine s_panic hS rfl ?_
    exact ⟨hS.ev.defs, hpan _ _ hM hS.st.frame⟩
  · refine wp_skip ?_
    exact s_end (rs := []) hS rfl rfl (hret w hM (hS.st.pick [] (by kernel_rfl)))

theorem inflate_reader_number_c {H : Imm} {F : List Frag} {w : World} {R : Ending → World → Prop} {kr : (Int × Int) → Prop} {kp : Value → Prop} (hG : Gl H) (K : Nat) (r62 : T_inflate_reader) (n_73 : Int) (b63 : Nat) (f64 : Frag) (b66 : Nat) (f67 : Frag) (A69 : Option Addr) (c70 : Nat) (f71 : Frag) (hB65 : Blk f64 b63 ([ptr b66 0, .slice A69 r62.out_.length c70, .int .i64 r62.limit_]) 44) (hB68 : Blk f67 b66 ([.int .i64 r62.Reader_.place_.at_, str r62.Reader_.text_]) 57) (hV72 : Vec 5 (ci .u8) 1 A69 r62.out_ c70 f71)
    (hS : St w H [f64, f67, f71] F) (hm : (inflate_reader_number.m K r62 n_73).wp kr kp)
    (hret : ∀ (x115 : Int) (at_116 : Int) (f117 : Frag) (w : World), kr (x115, at_116) → (Blk f117 b66 ([.int .i64 at_116, str r62.Reader_.text_]) 57) → St w H [f64, f117, f71] F → R (.returned (.int .i64 x115)) w)
    (hpan : ∀ v w, kp v → St w H [] F → R (.panicked [⟨v, false, false⟩]) w) :
    Calls Tryd.prog 21 ⟨[ptr b63 0, .int .i64 n_73]⟩ w R := by
  refine enter Tryd.func21 rfl Tryd.ntmps21 rfl hS fun a w hS => ?_
  have hM := hm; clear hm
  rw [inflate_reader_number.m] at hM
  refine wp_seq ?_
  refine wp_region_list ?_
  refine st1 hS (asg rfl) rfl fun a w hS => ?_
  refine wpList_nil ?_
  refine then_n ?_
  refine wp_seq ?_
  refine wp_region_list ?_
  refine st1 hS (mv rfl) rfl fun a w hS => ?_
  refine st1 hS (nck rfl) rfl fun a w hS => ?_
  refine st1 hS (fad rfl Tryd.runUnderlying44 rfl Tryd.sizeOf41 rfl) rfl fun a w hS => ?_
  refine st1 hS (ldb 0 rfl hB65 rfl rfl Tryd.isAgg41) rfl fun a w hS => ?_
  refine st1 hS (mv rfl) rfl fun a w hS => ?_
  refine s_call hS rfl Tryd.call33 (bits_Reader_Bits_c hG K r62.Reader_ n_73 b66 f67 hB68 (hS.st.part 1 [1, 0, 2] (by kernel_rfl)) (wp_bind hM) (fun x107 x108 at_109 f110 w hM h111 hst => s_back hS.ev hst.appF rfl fun hS => ?_))
  replace hS : Ss _ _ _ H [f110, f64, f71] F _ _ := hS
  refine st1 hS (mv rfl) rfl fun a w hS => ?_
  refine st1 hS (ex rfl rfl) rfl fun a w hS => ?_
  refine st1 hS (ex rfl rfl) rfl fun a w hS => ?_
  refine st1 hS (asg rfl) rfl fun a w hS => ?_
  refine st1 hS (asg rfl) rfl fun a w hS => ?_
  refine wpList_nil ?_
  refine then_n ?_
  refine wp_seq ?_
  refine wp_region_list ?_
  refine st1 hS (mv rfl) rfl fun a w hS => ?_
  refine s_call hS rfl Tryd.call34 (inflate_must_c hG K x108 (hS.st.part 0 [0, 1, 2] (by kernel_rfl)) (wp_bind hM) (fun  w hM  hst => s_back hS.ev hst.appF rfl fun hS => ?_) (fun v w hk hst => s_pan (then_pan (⟨hS.ev.defs, hpan _ _ hk hst.appF.frame⟩))))
  replace hS : Ss _ _ _ H [f110, f64, f71] F _ _ := hS
  refine wpList_nil ?_
  refine then_n ?_
  refine wp_seq ?_
  refine wp_region_list ?_
  refine st1 hS (mv rfl) rfl fun a w hS => ?_
  refine st1 hS (cvi rfl Tryd.runUnderlying33 Tryd.runUnderlying3) rfl fun a w hS => ?_
  refine st1x (v := Value.int .i64) hS (asg rfl) rfl fun v114 a w hz hS => ?_
  have hM := lt_to hz hM; clear hz
  refine wpList_nil ?_
  refine then_n ?_
  refine wp_ret ?_
  exact s_ret (rs := [4]) hS rfl rfl (hret v114 at_109 f110 w hM h111 (hS.st.pick [1, 0, 2] (by kernel_rfl)))

theorem bits_place_align_bits_Reader_c {H : Imm} {F : List Frag} {w : World} {R : Ending → World → Prop} {kr : Int → Prop} {kp : Value → Prop} (hG : Gl H) (K : Nat) (p147 : T_bits_Reader) (b148 : Nat) (f149 : Frag) (hB150 : Blk f149 b148 ([.int .i64 p147.place_.at_, str p147.text_]) 57)
    (hS : St w H [f149] F) (hm : (bits_place_align_bits_Reader.m K p147).wp kr kp)
    (hret : ∀ (at_153 : Int) (f154 : Frag) (w : World), kr at_153 → (Blk f154 b148 ([.int .i64 at_153, str p147.text_]) 57) → St w H [f154] F → R (.returned (.tuple ⟨[]⟩)) w) :
    Calls Tryd.prog 47 ⟨[ptr b148 0]⟩ w R := by
  refine enter Tryd.func47 rfl Tryd.ntmps47 rfl hS fun a w hS => ?_
  have hM := hm; clear hm
  rw [bits_place_align_bits_Reader.m] at hM
  refine wp_region_list ?_
  refine st1 hS (mv rfl) rfl fun a w hS => ?_
  refine st1 hS (mv rfl) rfl fun a w hS => ?_
  refine st1 hS (nck rfl) rfl fun a w hS => ?_
  refine st1 hS (fad rfl Tryd.runUnderlying55 rfl Tryd.sizeOf3 rfl) rfl fun a w hS => ?_
  refine st1 hS (ldb 0 rfl hB150 rfl rfl Tryd.isAgg3) rfl fun a w hS => ?_
  refine st1 hS (bin rfl rfl rfl) rfl fun a w hS => ?_
  refine st1 hS (bin rfl rfl rfl) rfl fun a w hS => ?_
  refine st1 hS (nck rfl) rfl fun a w hS => ?_
  refine st1 hS (fad rfl Tryd.runUnderlying55 rfl Tryd.sizeOf3 rfl) rfl fun a w hS => ?_
  refine sto 0 ([.int .i64 (iandn .i64 (w64 (p147.place_.at_ + (7 : Int))) (7 : Int)), str p147.text_]) hS rfl rfl hB150 rfl rfl rfl rfl Tryd.sizeOf3 fun w f151 hB152 hS => ?_
  refine wpList_nil ?_
  exact s_end (rs := []) hS rfl rfl (hret (iandn .i64 (w64 (p147.place_.at_ + (7 : Int))) (7 : Int)) f151 w hM hB152 (hS.st.pick [0] (by kernel_rfl)))

theorem bits_Reader_Bytes_c {H : Imm} {F : List Frag} {w : World} {R : Ending → World → Prop} {kr : ((List UInt8) × Int × Int) → Prop} {kp : Value → Prop} (hG : Gl H) (K : Nat) (r141 : T_bits_Reader) (n_145 : Int) (b142 : Nat) (f143 : Frag) (hB144 : Blk f143 b142 ([.int .i64 r141.place_.at_, str r141.text_]) 57)
    (hS : St w H [f143] F) (hm : (bits_Reader_Bytes.m K r141 n_145).wp kr kp)
    (hret : ∀ (x168 : List UInt8) (x169 : Int) (at_170 : Int) (f171 : Frag) (w : World), kr (x168, x169, at_170) → (Blk f171 b142 ([.int .i64 at_170, str r141.text_]) 57) → St w H [f171] F → R (.returned (.tuple ⟨[str x168, .int .i64 x169]⟩)) w) :
    Calls Tryd.prog 35 ⟨[ptr b142 0, .int .i64 n_145]⟩ w R := by
  refine enter Tryd.func35 rfl Tryd.ntmps35 rfl hS fun a w hS => ?_
  have hM := hm; clear hm
  rw [bits_Reader_Bytes.m] at hM
  refine wp_seq ?_
  refine wp_region_list ?_
  refine st1 hS (asg rfl) rfl fun a w hS => ?_
  refine st1 hS (asg rfl) rfl fun a w hS => ?_
  refine wpList_nil ?_
  refine then_n ?_
  refine wp_seq ?_
  refine wp_seq ?_
  refine wp_region_list ?_
  refine st1 hS (mv rfl) rfl fun a w hS => ?_
  refine st1 hS (eqNil rfl rfl Tryd.runUnderlying41) rfl fun a w hS => ?_
  refine st1 hS (mv rfl) rfl fun a w hS => ?_
  refine st1g hS rfl rfl rfl rfl (mv rfl) rfl fun a w hS => ?_
  refine st1g hS rfl rfl rfl rfl (bin rfl rfl rfl) rfl fun a w hS => ?_
  refine st1 hS (pk rfl rfl rfl) rfl fun a w hS => ?_
  refine wpList_nil ?_
  refine then_n ?_
  refine s_cond hS rfl hM (fun hb146 hM => ?_) (fun hb146 hM => ?_)
  · refine wp_seq ?_
    refine wp_region_list ?_
    refine st1 hS (asg rfl) rfl fun a w hS => ?_
    refine st1 hS (asg rfl) rfl fun a w hS => ?_
    refine wpList_nil ?_
    refine then_n ?_
    refine wp_ret ?_
    refine then_ret ?_
    exact s_ret (rs := [4, 5]) hS rfl rfl (hret ([] : List UInt8) (1 : Int) r141.place_.at_ f143 w hM hB144 (hS.st.pick [0] (by kernel_rfl)))
  · refine wp_skip ?_
    refine then_n ?_
    refine wp_seq ?_
    refine wp_region_list ?_
    refine st1 hS (mv rfl) rfl fun a w hS => ?_
    refine st1 hS (nck rfl) rfl fun a w hS => ?_
    refine st1 hS (fad rfl Tryd.runUnderlying57 rfl Tryd.sizeOf55 rfl) rfl fun a w hS => ?_
    refine s_call hS rfl Tryd.call47 (bits_place_align_bits_Reader_c hG K r141 b142 f143 hB144 (hS.st.part 1 [0] (by kernel_rfl)) (wp_bind hM) (fun at_156 f157 w hM h158 hst => s_back hS.ev hst.appF rfl fun hS => ?_))
    replace hS : Ss _ _ _ H [f157] F _ _ := hS
    refine wpList_nil ?_
    refine then_n ?_
    refine wp_seq ?_
    obtain ⟨hk160, hM⟩ := wp_chk hM
    obtain ⟨rest161, hz162⟩ : ∃ x, x = (sub r141.text_ (iquo .i64 at_156 (8 : Int)) (r141.text_.length : Int)) := ⟨_, rfl⟩
    replace hM := lt_to hz162 hM
    refine draw_begin (vals := [some (ptr b142 0), some (ptr b142 0), some (ptr b142 1), some (str r141.text_), some (ptr b142 0), some (ptr b142 0), some (ptr b142 0), some (ptr b142 0), some (.int .i64 at_156), some (.int .i64 (iquo .i64 at_156 (8 : Int))), some (str (sub r141.text_ (iquo .i64 at_156 (8 : Int)) (r141.text_.length : Int))), some (str rest161)]) hS mixed rfl ?_
    intro l w ho hcl hA hst
    refine phaseE (vals := [some (ptr b142 0), some (ptr b142 0), some (ptr b142 1), some (str r141.text_), some (ptr b142 0), some (ptr b142 0), some (ptr b142 0), some (ptr b142 0), some (.int .i64 at_156), some (.int .i64 (iquo .i64 at_156 (8 : Int))), some (str (sub r141.text_ (iquo .i64 at_156 (8 : Int)) (r141.text_.length : Int))), some (str rest161)]) [] [0, 1, 2, 3, 4, 5, 6, 7, 8, 9, 10, 11] rfl rfl rfl (by exact ⟨nR rfl rfl rfl rfl rfl (by exact ovE (mv rfl) rfl), nR rfl rfl rfl rfl rfl (by exact ovE (nck rfl) rfl), nR rfl rfl rfl rfl rfl (by exact ovE (fad rfl Tryd.runUnderlying57 rfl Tryd.sizeOf9 rfl) rfl), nR rfl rfl rfl rfl rfl (by exact ovE (ldb 0 rfl h158 rfl rfl Tryd.isAgg9) rfl), nR rfl rfl rfl rfl rfl (by exact ovE (mv rfl) rfl), nR rfl rfl rfl rfl rfl (by exact ovE (nck rfl) rfl), nR rfl rfl rfl rfl rfl (by exact ovE (fad rfl Tryd.runUnderlying57 rfl Tryd.sizeOf55 rfl) rfl), nR rfl rfl rfl rfl rfl (by exact ovE (fad rfl Tryd.runUnderlying55 rfl Tryd.sizeOf3 rfl) rfl), nR rfl rfl rfl rfl rfl (by exact ovE (ldb 0 rfl h158 rfl rfl Tryd.isAgg3) rfl), nR rfl rfl rfl rfl rfl (by exact ovE (quo rfl rfl rfl) rfl), nR rfl rfl rfl rfl rfl (by exact ovE (slS rfl Tryd.runUnderlying9 (loS rfl) hi0 hk160) rfl), nR rfl rfl rfl rfl rfl (by exact ovE (asg rfl) (congrArg (str) hz162.symm)), trivial⟩) (fun a w hS => ?_) ho hcl (fun m hm => (List.not_mem_nil hm).elim) hA hst
    replace hS := hS.env2 (e' := [(0, ptr b142 0), (1, .int .i64 n_145), (6, str rest161)]) ⟨rfl, rfl, rfl, trivial⟩
    refine then_n ?_
    refine wp_seq ?_
    refine wp_seq ?_
    refine wp_region_list ?_
    refine st1 hS (mv rfl) rfl fun a w hS => ?_
    refine st1 hS (mv rfl) rfl fun a w hS => ?_
    refine st1 hS (lenS rfl Tryd.runUnderlying9) rfl fun a w hS => ?_
    refine st1 hS (bin rfl rfl rfl) rfl fun a w hS => ?_
    refine wpList_nil ?_
    refine then_n ?_
    refine s_cond hS rfl hM (fun hb163 hM => ?_) (fun hb163 hM => ?_)
    · refine wp_seq ?_
      refine wp_region_list ?_
      refine st1 hS (asg rfl) rfl fun a w hS => ?_
      refine st1 hS (asg rfl) rfl fun a w hS => ?_
      refine wpList_nil ?_
      refine then_n ?_
      refine wp_ret ?_
      refine then_ret ?_
      exact s_ret (rs := [4, 5]) hS rfl rfl (hret ([] : List UInt8) (2 : Int) at_156 f157 w hM h158 (hS.st.pick [0] (by kernel_rfl)))
    · refine wp_skip ?_
      refine then_n ?_
      refine wp_seq ?_
      refine wp_region_list ?_
      refine st1 hS (mv rfl) rfl fun a w hS => ?_
      refine st1 hS (nck rfl) rfl fun a w hS => ?_
      refine st1 hS (fad rfl Tryd.runUnderlying57 rfl Tryd.sizeOf55 rfl) rfl fun a w hS => ?_
      refine st1 hS (fad rfl Tryd.runUnderlying55 rfl Tryd.sizeOf3 rfl) rfl fun a w hS => ?_
      refine st1 hS (ldb 0 rfl h158 rfl rfl Tryd.isAgg3) rfl fun a w hS => ?_
      refine st1 hS (mv rfl) rfl fun a w hS => ?_
      refine st1 hS (bin rfl rfl rfl) rfl fun a w hS => ?_
      refine st1 hS (bin rfl rfl rfl) rfl fun a w hS => ?_
      refine st1 hS (nck rfl) rfl fun a w hS => ?_
      refine st1 hS (fad rfl Tryd.runUnderlying57 rfl Tryd.sizeOf55 rfl) rfl fun a w hS => ?_
      refine st1 hS (fad rfl Tryd.runUnderlying55 rfl Tryd.sizeOf3 rfl) rfl fun a w hS => ?_
      refine sto 0 ([.int .i64 (w64 (at_156 + (w64 ((8 : Int) * n_145)))), str r141.text_]) hS rfl rfl h158 rfl rfl rfl rfl Tryd.sizeOf3 fun w f164 hB165 hS => ?_
      refine wpList_nil ?_
      refine then_n ?_
      refine wp_seq ?_
      refine wp_region_list ?_
      refine st1 hS (mv rfl) rfl fun a w hS => ?_
      refine st1 hS (mv rfl) rfl fun a w hS => ?_
      obtain ⟨hk166, hM⟩ := wp_chk hM
      refine st1 hS (slS rfl Tryd.runUnderlying9 lo0 (hiS rfl) hk166) rfl fun a w hS => ?_
      refine st1x (v := str) hS (asg rfl) rfl fun v167 a w hz hS => ?_
      have hM := lt_to hz hM; clear hz
      refine st1 hS (asg rfl) rfl fun a w hS => ?_
      refine wpList_nil ?_
      refine then_n ?_
      refine wp_ret ?_
      exact s_ret (rs := [4, 5]) hS rfl rfl (hret v167 (0 : Int) (w64 (at_156 + (w64 ((8 : Int) * n_145)))) f164 w hM hB165 (hS.st.pick [0] (by kernel_rfl)))

theorem inflate_refuse_c {H : Imm} {F : List Frag} {w : World} {R : Ending → World → Prop} {kr : Unit → Prop} {kp : Value → Prop} (hG : Gl H) (K : Nat) (bad188 : Bool) (e_189 : Int)
    (hS : St w H [] F) (hm : (inflate_refuse.m K bad188 e_189).wp kr kp)
    (hret : ∀ (w : World), kr () → St w H [] F → R (.returned (.tuple ⟨[]⟩)) w)
    (hpan : ∀ v w, kp v → St w H [] F → R (.panicked [⟨v, false, false⟩]) w) :
    Calls Tryd.prog 26 ⟨[.bool bad188, .int .i64 e_189]⟩ w R := by
  refine enter Tryd.func26 rfl Tryd.ntmps26 rfl hS fun a w hS => ?_
  have hM := hm; clear hm
  rw [inflate_refuse.m] at hM
  refine wp_seq ?_
  refine wp_region_list ?_
  refine st1 hS (mv rfl) rfl fun a w hS => ?_
  refine wpList_nil ?_
  refine then_n ?_
  refine s_cond hS rfl hM (fun hb190 hM => ?_) (fun hb190 hM => ?_)
  · refine wp_region_list ?_
    refine st1 hS (mv rfl) rfl fun a w hS => ?_
    refine st1 hS (bld ([.int .i64 e_189]) [(0, 1)] Tryd.zeroValue39 Tryd.runUnderlying39 (by intro w; simp [Tryd.sizeOf23]) rfl rfl) rfl fun a w hS => ?_
    refine st1 hS (mkI rfl Tryd.runUnderlying39 rfl) rfl fun a w hS => ?_
    refine s_panic hS rfl ?_
    exact ⟨hS.ev.defs, hpan _ _ hM hS.st.frame⟩
  · refine wp_skip ?_
    exact s_end (rs := []) hS rfl rfl (hret w hM (hS.st.pick [] (by kernel_rfl)))

theorem inflate_reader_stored_c {H : Imm} {F : List Frag} {w : World} {R : Ending → World → Prop} {kr : (Int × (List Int)) → Prop} {kp : Value → Prop} (hG : Gl H) (K : Nat) (r130 : T_inflate_reader) (b131 : Nat) (f132 : Frag) (b134 : Nat) (f135 : Frag) (A137 : Option Addr) (c138 : Nat) (f139 : Frag) (hB133 : Blk f132 b131 ([ptr b134 0, .slice A137 r130.out_.length c138, .int .i64 r130.limit_]) 44) (hB136 : Blk f135 b134 ([.int .i64 r130.Reader_.place_.at_, str r130.Reader_.text_]) 57) (hV140 : Vec 5 (ci .u8) 1 A137 r130.out_ c138 f139)
    (hS : St w H [f132, f135, f139] F) (hm : (inflate_reader_stored.m K r130).wp kr kp)
    (hret : ∀ (at_204 : Int) (f205 : Frag) (A207 : Option Addr) (c208 : Nat) (out209 : (List Int)) (f210 : Frag) (f212 : Frag) (w : World), kr (at_204, out209) → (Blk f205 b134 ([.int .i64 at_204, str r130.Reader_.text_]) 57) → (Vec 5 (ci .u8) 1 A207 out209 c208 f210) → (Blk f212 b131 ([ptr b134 0, .slice A207 out209.length c208, .int .i64 r130.limit_]) 44) → St w H [f212, f205, f210] F → R (.returned (.tuple ⟨[]⟩)) w)
    (hpan : ∀ v w, kp v → St w H [] F → R (.panicked [⟨v, false, false⟩]) w) :
    Calls Tryd.prog 22 ⟨[ptr b131 0]⟩ w R := by
  refine enter Tryd.func22 rfl Tryd.ntmps22 rfl hS fun a w hS => ?_
  have hM := hm; clear hm
  rw [inflate_reader_stored.m] at hM
  refine wp_seq ?_
  refine wp_region_list ?_
  refine st1 hS (mv rfl) rfl fun a w hS => ?_
  refine st1 hS (nck rfl) rfl fun a w hS => ?_
  refine st1 hS (fad rfl Tryd.runUnderlying44 rfl Tryd.sizeOf41 rfl) rfl fun a w hS => ?_
  refine st1 hS (ldb 0 rfl hB133 rfl rfl Tryd.isAgg41) rfl fun a w hS => ?_
  refine s_call hS rfl Tryd.call35 (bits_Reader_Bytes_c hG K r130.Reader_ (4 : Int) b134 f135 hB136 (hS.st.part 1 [1, 0, 2] (by kernel_rfl)) (wp_bind hM) (fun x173 x174 at_175 f176 w hM h177 hst => s_back hS.ev hst.appF rfl fun hS => ?_))
  replace hS : Ss _ _ _ H [f176, f132, f139] F _ _ := hS
  refine st1 hS (mv rfl) rfl fun a w hS => ?_
  refine st1 hS (ex rfl rfl) rfl fun a w hS => ?_
  refine st1 hS (ex rfl rfl) rfl fun a w hS => ?_
  refine st1 hS (asg rfl) rfl fun a w hS => ?_
  refine st1 hS (asg rfl) rfl fun a w hS => ?_
  refine wpList_nil ?_
  refine then_n ?_
  refine wp_seq ?_
  refine wp_region_list ?_
  refine st1 hS (mv rfl) rfl fun a w hS => ?_
  refine s_call hS rfl Tryd.call34 (inflate_must_c hG K x174 (hS.st.part 0 [0, 1, 2] (by kernel_rfl)) (wp_bind hM) (fun  w hM  hst => s_back hS.ev hst.appF rfl fun hS => ?_) (fun v w hk hst => s_pan (then_pan (⟨hS.ev.defs, hpan _ _ hk hst.appF.frame⟩))))
  replace hS : Ss _ _ _ H [f176, f132, f139] F _ _ := hS
  refine wpList_nil ?_
  refine then_n ?_
  refine wp_seq ?_
  obtain ⟨hk179, hM⟩ := wp_chk hM
  obtain ⟨hk181, hM⟩ := wp_chk hM
  obtain ⟨n_182, hz183⟩ : ∃ x, x = (ior .i64 (wr .i64 ((rd x173 (0 : Int)).toNat : Int)) (ishl .i64 (wr .i64 ((rd x173 (1 : Int)).toNat : Int)) (8 : Int))) := ⟨_, rfl⟩
  replace hM := lt_to hz183 hM
  refine draw_begin (vals := [some (str x173), some (.int .u8 ((rd x173 (0 : Int)).toNat : Int)), some (.int .i64 (wr .i64 ((rd x173 (0 : Int)).toNat : Int))), some (str x173), some (.int .u8 ((rd x173 (1 : Int)).toNat : Int)), some (.int .i64 (wr .i64 ((rd x173 (1 : Int)).toNat : Int))), some (.int .i64 (ishl .i64 (wr .i64 ((rd x173 (1 : Int)).toNat : Int)) (8 : Int))), some (.int .i64 (ior .i64 (wr .i64 ((rd x173 (0 : Int)).toNat : Int)) (ishl .i64 (wr .i64 ((rd x173 (1 : Int)).toNat : Int)) (8 : Int)))), some (.int .i64 n_182)]) hS mixed rfl ?_
  intro l w ho hcl hA hst
  refine phaseE (vals := [some (str x173), some (.int .u8 ((rd x173 (0 : Int)).toNat : Int)), some (.int .i64 (wr .i64 ((rd x173 (0 : Int)).toNat : Int))), some (str x173), some (.int .u8 ((rd x173 (1 : Int)).toNat : Int)), some (.int .i64 (wr .i64 ((rd x173 (1 : Int)).toNat : Int))), some (.int .i64 (ishl .i64 (wr .i64 ((rd x173 (1 : Int)).toNat : Int)) (8 : Int))), some (.int .i64 (ior .i64 (wr .i64 ((rd x173 (0 : Int)).toNat : Int)) (ishl .i64 (wr .i64 ((rd x173 (1 : Int)).toNat : Int)) (8 : Int)))), some (.int .i64 n_182)]) [] [0, 1, 2, 3, 4, 5, 6, 7, 8] rfl rfl rfl (by exact ⟨nR rfl rfl rfl rfl rfl (by exact ovE (mv rfl) rfl), nR rfl rfl rfl rfl rfl (by exact ovE (ixs rfl rfl Tryd.runUnderlying9 hk179) rfl), nR rfl rfl rfl rfl rfl (by exact ovE (cvi rfl Tryd.runUnderlying5 Tryd.runUnderlying3) rfl), nR rfl rfl rfl rfl rfl (by exact ovE (mv rfl) rfl), nR rfl rfl rfl rfl rfl (by exact ovE (ixs rfl rfl Tryd.runUnderlying9 hk181) rfl), nR rfl rfl rfl rfl rfl (by exact ovE (cvi rfl Tryd.runUnderlying5 Tryd.runUnderlying3) rfl), nR rfl rfl rfl rfl rfl (by exact ovE (shl rfl rfl rfl) rfl), nR rfl rfl rfl rfl rfl (by exact ovE (bin rfl rfl rfl) rfl), nR rfl rfl rfl rfl rfl (by exact ovE (asg rfl) (congrArg (Value.int .i64) hz183.symm)), trivial⟩) (fun a w hS => ?_) ho hcl (fun m hm => (List.not_mem_nil hm).elim) hA hst
  replace hS := hS.env2 (e' := [(0, ptr b131 0), (2, str x173), (4, .int .i64 n_182)]) ⟨rfl, rfl, rfl, trivial⟩
  refine then_n ?_
  refine wp_seq ?_
  obtain ⟨hk185, hM⟩ := wp_chk hM
  obtain ⟨hk187, hM⟩ := wp_chk hM
  refine draw_begin (vals := [some (str x173), some (.int .u8 ((rd x173 (2 : Int)).toNat : Int)), some (.int .i64 (wr .i64 ((rd x173 (2 : Int)).toNat : Int))), some (str x173), some (.int .u8 ((rd x173 (3 : Int)).toNat : Int)), some (.int .i64 (wr .i64 ((rd x173 (3 : Int)).toNat : Int))), some (.int .i64 (ishl .i64 (wr .i64 ((rd x173 (3 : Int)).toNat : Int)) (8 : Int))), some (.int .i64 (ior .i64 (wr .i64 ((rd x173 (2 : Int)).toNat : Int)) (ishl .i64 (wr .i64 ((rd x173 (3 : Int)).toNat : Int)) (8 : Int)))), some (.int .i64 n_182), some (.int .i64 (ixor .i64 n_182 (65535 : Int))), some (.bool ((ior .i64 (wr .i64 ((rd x173 (2 : Int)).toNat : Int)) (ishl .i64 (wr .i64 ((rd x173 (3 : Int)).toNat : Int)) (8 : Int))) != (ixor .i64 n_182 (65535 : Int)))), none]) hS mixed rfl ?_
  intro l w ho hcl hA hst
  refine phase' (vals := [some (str x173), some (.int .u8 ((rd x173 (2 : Int)).toNat : Int)), some (.int .i64 (wr .i64 ((rd x173 (2 : Int)).toNat : Int))), some (str x173), some (.int .u8 ((rd x173 (3 : Int)).toNat : Int)), some (.int .i64 (wr .i64 ((rd x173 (3 : Int)).toNat : Int))), some (.int .i64 (ishl .i64 (wr .i64 ((rd x173 (3 : Int)).toNat : Int)) (8 : Int))), some (.int .i64 (ior .i64 (wr .i64 ((rd x173 (2 : Int)).toNat : Int)) (ishl .i64 (wr .i64 ((rd x173 (3 : Int)).toNat : Int)) (8 : Int)))), some (.int .i64 n_182), some (.int .i64 (ixor .i64 n_182 (65535 : Int))), some (.bool ((ior .i64 (wr .i64 ((rd x173 (2 : Int)).toNat : Int)) (ishl .i64 (wr .i64 ((rd x173 (3 : Int)).toNat : Int)) (8 : Int))) != (ixor .i64 n_182 (65535 : Int)))), none]) 11 [] [0, 1, 2, 3, 4, 5, 6, 7, 8, 9, 10] rfl rfl rfl rfl (by exact ⟨nR rfl rfl rfl rfl rfl (by exact ovE (mv rfl) rfl), nR rfl rfl rfl rfl rfl (by exact ovE (ixs rfl rfl Tryd.runUnderlying9 hk185) rfl), nR rfl rfl rfl rfl rfl (by exact ovE (cvi rfl Tryd.runUnderlying5 Tryd.runUnderlying3) rfl), nR rfl rfl rfl rfl rfl (by exact ovE (mv rfl) rfl), nR rfl rfl rfl rfl rfl (by exact ovE (ixs rfl rfl Tryd.runUnderlying9 hk187) rfl), nR rfl rfl rfl rfl rfl (by exact ovE (cvi rfl Tryd.runUnderlying5 Tryd.runUnderlying3) rfl), nR rfl rfl rfl rfl rfl (by exact ovE (shl rfl rfl rfl) rfl), nR rfl rfl rfl rfl rfl (by exact ovE (bin rfl rfl rfl) rfl), nR rfl rfl rfl rfl rfl (by exact ovE (mv rfl) rfl), nR rfl rfl rfl rfl rfl (by exact ovE (bin rfl rfl rfl) rfl), nR rfl rfl rfl rfl rfl (by exact ovE (bin rfl rfl rfl) rfl), trivial⟩) (fun D l a w ho hcl hav hpre hm hE hk hA hst => ?_) ho hcl (fun j hj => (List.not_mem_nil hj).elim) (fun m hm => (List.not_mem_nil hm).elim) List.not_mem_nil hA hst
  have hS := (Ss.mk hE hst).env2 (e' := [(34, .bool ((ior .i64 (wr .i64 ((rd x173 (2 : Int)).toNat : Int)) (ishl .i64 (wr .i64 ((rd x173 (3 : Int)).toNat : Int)) (8 : Int))) != (ixor .i64 n_182 (65535 : Int))))]) ⟨rfl, trivial⟩
  refine op_of_nth rfl ?_
  refine s_call hS rfl Tryd.call26 (inflate_refuse_c hG K ((ior .i64 (wr .i64 ((rd x173 (2 : Int)).toNat : Int)) (ishl .i64 (wr .i64 ((rd x173 (3 : Int)).toNat : Int)) (8 : Int))) != (ixor .i64 n_182 (65535 : Int))) (3 : Int) (hS.st.part 0 [0, 1, 2] (by kernel_rfl)) (wp_bind hM) (fun  w hM  hst => s_back hS.ev hst.appF rfl fun hS => ?_) (fun v w hk hst => s_pan (then_pan (then_pan (⟨hS.ev.defs, hpan _ _ hk hst.appF.frame⟩)))))
  replace hS : Ss _ _ _ H [f176, f132, f139] F _ _ := hS
  refine wpList_nil (then_n ?_)
  have hcl2 := hcl.cons (k := 11) (nth_get rfl) hpre
  have hmust := must_cons (k := 11) hm (chain (k := 11) hcl (nth_get rfl) hpre [(10, 11), (7, 10), (9, 10), (2, 7), (6, 7), (8, 9), (1, 2), (5, 6), (0, 1), (4, 5), (3, 4)] [] rfl (fun _ h => absurd h List.not_mem_nil))
  replace hst := hS.st
  have hav2 := hav.cons (vals' := [some (str x173), some (.int .u8 ((rd x173 (2 : Int)).toNat : Int)), some (.int .i64 (wr .i64 ((rd x173 (2 : Int)).toNat : Int))), some (str x173), some (.int .u8 ((rd x173 (3 : Int)).toNat : Int)), some (.int .i64 (wr .i64 ((rd x173 (3 : Int)).toNat : Int))), some (.int .i64 (ishl .i64 (wr .i64 ((rd x173 (3 : Int)).toNat : Int)) (8 : Int))), some (.int .i64 (ior .i64 (wr .i64 ((rd x173 (2 : Int)).toNat : Int)) (ishl .i64 (wr .i64 ((rd x173 (3 : Int)).toNat : Int)) (8 : Int)))), some (.int .i64 n_182), some (.int .i64 (ixor .i64 n_182 (65535 : Int))), some (.bool ((ior .i64 (wr .i64 ((rd x173 (2 : Int)).toNat : Int)) (ishl .i64 (wr .i64 ((rd x173 (3 : Int)).toNat : Int)) (8 : Int))) != (ixor .i64 n_182 (65535 : Int)))), some (.tuple ⟨[]⟩)]) (k := 11) ⟨rfl, rfl, rfl, rfl, rfl, rfl, rfl, rfl, rfl, rfl, rfl, trivial⟩ rfl
  replace hA := (hA.next hav (subV.get (l' := [some (str x173), some (.int .u8 ((rd x173 (2 : Int)).toNat : Int)), some (.int .i64 (wr .i64 ((rd x173 (2 : Int)).toNat : Int))), some (str x173), some (.int .u8 ((rd x173 (3 : Int)).toNat : Int)), some (.int .i64 (wr .i64 ((rd x173 (3 : Int)).toNat : Int))), some (.int .i64 (ishl .i64 (wr .i64 ((rd x173 (3 : Int)).toNat : Int)) (8 : Int))), some (.int .i64 (ior .i64 (wr .i64 ((rd x173 (2 : Int)).toNat : Int)) (ishl .i64 (wr .i64 ((rd x173 (3 : Int)).toNat : Int)) (8 : Int)))), some (.int .i64 n_182), some (.int .i64 (ixor .i64 n_182 (65535 : Int))), some (.bool ((ior .i64 (wr .i64 ((rd x173 (2 : Int)).toNat : Int)) (ishl .i64 (wr .i64 ((rd x173 (3 : Int)).toNat : Int)) (8 : Int))) != (ixor .i64 n_182 (65535 : Int)))), some (.tuple ⟨[]⟩)]) ⟨rfl, rfl, rfl, rfl, rfl, rfl, rfl, rfl, rfl, rfl, rfl, trivial⟩)).step rfl (nth_get rfl) hk rfl rfl rfl
  clear hm hav
  replace hcl := hcl2
  refine phaseE (vals := [some (str x173), some (.int .u8 ((rd x173 (2 : Int)).toNat : Int)), some (.int .i64 (wr .i64 ((rd x173 (2 : Int)).toNat : Int))), some (str x173), some (.int .u8 ((rd x173 (3 : Int)).toNat : Int)), some (.int .i64 (wr .i64 ((rd x173 (3 : Int)).toNat : Int))), some (.int .i64 (ishl .i64 (wr .i64 ((rd x173 (3 : Int)).toNat : Int)) (8 : Int))), some (.int .i64 (ior .i64 (wr .i64 ((rd x173 (2 : Int)).toNat : Int)) (ishl .i64 (wr .i64 ((rd x173 (3 : Int)).toNat : Int)) (8 : Int)))), some (.int .i64 n_182), some (.int .i64 (ixor .i64 n_182 (65535 : Int))), some (.bool ((ior .i64 (wr .i64 ((rd x173 (2 : Int)).toNat : Int)) (ishl .i64 (wr .i64 ((rd x173 (3 : Int)).toNat : Int)) (8 : Int))) != (ixor .i64 n_182 (65535 : Int)))), some (.tuple ⟨[]⟩)]) [11, 10, 7, 9, 2, 6, 8, 1, 5, 0, 4, 3] [] rfl rfl rfl trivial (fun a w hS => ?_) ho hcl hmust hA hst
  replace hS := hS.env2 (e' := [(0, ptr b131 0), (4, .int .i64 n_182)]) ⟨rfl, rfl, trivial⟩
  refine then_n ?_
  refine wp_seq ?_
  refine wp_region_list ?_
  refine st1 hS (mv rfl) rfl fun a w hS => ?_
  refine st1 hS (nck rfl) rfl fun a w hS => ?_
  refine st1 hS (fad rfl Tryd.runUnderlying44 rfl Tryd.sizeOf41 rfl) rfl fun a w hS => ?_
  refine st1 hS (ldb 1 rfl hB133 rfl rfl Tryd.isAgg41) rfl fun a w hS => ?_
  refine st1 hS (mv rfl) rfl fun a w hS => ?_
  refine s_call hS rfl Tryd.call35 (bits_Reader_Bytes_c hG K (T_bits_Reader.mk (T_bits_place.mk at_175) r130.Reader_.text_) n_182 b134 f176 h177 (hS.st.part 1 [0, 1, 2] (by kernel_rfl)) (wp_bind hM) (fun x191 x192 at_193 f194 w hM h195 hst => s_back hS.ev hst.appF rfl fun hS => ?_))
  replace hS : Ss _ _ _ H [f194, f132, f139] F _ _ := hS
  refine st1 hS (mv rfl) rfl fun a w hS => ?_
  refine st1 hS (ex rfl rfl) rfl fun a w hS => ?_
  refine st1 hS (ex rfl rfl) rfl fun a w hS => ?_
  refine st1 hS (asg rfl) rfl fun a w hS => ?_
  refine st1 hS (asg rfl) rfl fun a w hS => ?_
  refine wpList_nil ?_
  refine then_n ?_
  refine wp_seq ?_
  refine wp_region_list ?_
  refine st1 hS (mv rfl) rfl fun a w hS => ?_
  refine s_call hS rfl Tryd.call34 (inflate_must_c hG K x192 (hS.st.part 0 [0, 1, 2] (by kernel_rfl)) (wp_bind hM) (fun  w hM  hst => s_back hS.ev hst.appF rfl fun hS => ?_) (fun v w hk hst => s_pan (then_pan (⟨hS.ev.defs, hpan _ _ hk hst.appF.frame⟩))))
  replace hS : Ss _ _ _ H [f194, f132, f139] F _ _ := hS
  refine wpList_nil ?_
  refine then_n ?_
  refine wp_seq ?_
  refine draw_begin (vals := [some (ptr b131 0), some (ptr b131 0), some (ptr b131 1), some (.slice A137 r130.out_.length c138), some (.int .i64 (r130.out_.length : Int)), some (.int .i64 n_182), some (.int .i64 (w64 ((r130.out_.length : Int) + n_182))), some (ptr b131 0), some (ptr b131 0), some (ptr b131 2), some (.int .i64 r130.limit_), some (.bool (decide ((w64 ((r130.out_.length : Int) + n_182)) > r130.limit_))), none]) hS mixed rfl ?_
  intro l w ho hcl hA hst
  refine phase' (vals := [some (ptr b131 0), some (ptr b131 0), some (ptr b131 1), some (.slice A137 r130.out_.length c138), some (.int .i64 (r130.out_.length : Int)), some (.int .i64 n_182), some (.int .i64 (w64 ((r130.out_.length : Int) + n_182))), some (ptr b131 0), some (ptr b131 0), some (ptr b131 2), some (.int .i64 r130.limit_), some (.bool (decide ((w64 ((r130.out_.length : Int) + n_182)) > r130.limit_))), none]) 12 [] [0, 1, 2, 3, 4, 5, 6, 7, 8, 9, 10, 11] rfl rfl rfl rfl (by exact ⟨nR rfl rfl rfl rfl rfl (by exact ovE (mv rfl) rfl), nR rfl rfl rfl rfl rfl (by exact ovE (nck rfl) rfl), nR rfl rfl rfl rfl rfl (by exact ovE (fad rfl Tryd.runUnderlying44 rfl Tryd.sizeOf30 rfl) rfl), nR rfl rfl rfl rfl rfl (by exact ovE (ldb 1 rfl hB133 rfl rfl Tryd.isAgg30) rfl), nR rfl rfl rfl rfl rfl (by exact ovE (lenV rfl Tryd.runUnderlying30) rfl), nR rfl rfl rfl rfl rfl (by exact ovE (mv rfl) rfl), nR rfl rfl rfl rfl rfl (by exact ovE (bin rfl rfl rfl) rfl), nR rfl rfl rfl rfl rfl (by exact ovE (mv rfl) rfl), nR rfl rfl rfl rfl rfl (by exact ovE (nck rfl) rfl), nR rfl rfl rfl rfl rfl (by exact ovE (fad rfl Tryd.runUnderlying44 rfl Tryd.sizeOf3 rfl) rfl), nR rfl rfl rfl rfl rfl (by exact ovE (ldb 1 rfl hB133 rfl rfl Tryd.isAgg3) rfl), nR rfl rfl rfl rfl rfl (by exact ovE (bin rfl rfl rfl) rfl), trivial⟩) (fun D l a w ho hcl hav hpre hm hE hk hA hst => ?_) ho hcl (fun j hj => (List.not_mem_nil hj).elim) (fun m hm => (List.not_mem_nil hm).elim) List.not_mem_nil hA hst
  have hS := (Ss.mk hE hst).env2 (e' := [(58, .bool (decide ((w64 ((r130.out_.length : Int) + n_182)) > r130.limit_)))]) ⟨rfl, trivial⟩
  refine op_of_nth rfl ?_
  refine s_call hS rfl Tryd.call26 (inflate_refuse_c hG K (decide ((w64 ((r130.out_.length : Int) + n_182)) > r130.limit_)) (11 : Int) (hS.st.part 0 [0, 1, 2] (by kernel_rfl)) (wp_bind hM) (fun  w hM  hst => s_back hS.ev hst.appF rfl fun hS => ?_) (fun v w hk hst => s_pan (then_pan (then_pan (⟨hS.ev.defs, hpan _ _ hk hst.appF.frame⟩)))))
  replace hS : Ss _ _ _ H [f194, f132, f139] F _ _ := hS
  refine wpList_nil (then_n ?_)
  have hcl2 := hcl.cons (k := 12) (nth_get rfl) hpre
  have hmust := must_cons (k := 12) hm (chain (k := 12) hcl (nth_get rfl) hpre [(11, 12), (6, 11), (10, 11), (4, 6), (5, 6), (9, 10), (3, 4), (8, 9), (2, 3), (7, 8), (1, 2), (0, 1)] [] rfl (fun _ h => absurd h List.not_mem_nil))
  replace hst := hS.st
  have hav2 := hav.cons (vals' := [some (ptr b131 0), some (ptr b131 0), some (ptr b131 1), some (.slice A137 r130.out_.length c138), some (.int .i64 (r130.out_.length : Int)), some (.int .i64 n_182), some (.int .i64 (w64 ((r130.out_.length : Int) + n_182))), some (ptr b131 0), some (ptr b131 0), some (ptr b131 2), some (.int .i64 r130.limit_), some (.bool (decide ((w64 ((r130.out_.length : Int) + n_182)) > r130.limit_))), some (.tuple ⟨[]⟩)]) (k := 12) ⟨rfl, rfl, rfl, rfl, rfl, rfl, rfl, rfl, rfl, rfl, rfl, rfl, trivial⟩ rfl
  replace hA := (hA.next hav (subV.get (l' := [some (ptr b131 0), some (ptr b131 0), some (ptr b131 1), some (.slice A137 r130.out_.length c138), some (.int .i64 (r130.out_.length : Int)), some (.int .i64 n_182), some (.int .i64 (w64 ((r130.out_.length : Int) + n_182))), some (ptr b131 0), some (ptr b131 0), some (ptr b131 2), some (.int .i64 r130.limit_), some (.bool (decide ((w64 ((r130.out_.length : Int) + n_182)) > r130.limit_))), some (.tuple ⟨[]⟩)]) ⟨rfl, rfl, rfl, rfl, rfl, rfl, rfl, rfl, rfl, rfl, rfl, rfl, trivial⟩)).step rfl (nth_get rfl) hk rfl rfl rfl
  clear hm hav
  replace hcl := hcl2
  refine phaseE (vals := [some (ptr b131 0), some (ptr b131 0), some (ptr b131 1), some (.slice A137 r130.out_.length c138), some (.int .i64 (r130.out_.length : Int)), some (.int .i64 n_182), some (.int .i64 (w64 ((r130.out_.length : Int) + n_182))), some (ptr b131 0), some (ptr b131 0), some (ptr b131 2), some (.int .i64 r130.limit_), some (.bool (decide ((w64 ((r130.out_.length : Int) + n_182)) > r130.limit_))), some (.tuple ⟨[]⟩)]) [12, 11, 6, 10, 4, 5, 9, 3, 8, 2, 7, 1, 0] [] rfl rfl rfl trivial (fun a w hS => ?_) ho hcl hmust hA hst
  replace hS := hS.env2 (e' := [(0, ptr b131 0), (5, str x191)]) ⟨rfl, rfl, trivial⟩
  refine then_n ?_
  refine wp_region_list ?_
  refine st1 hS (mv rfl) rfl fun a w hS => ?_
  refine st1 hS (mv rfl) rfl fun a w hS => ?_
  refine st1 hS (nck rfl) rfl fun a w hS => ?_
  refine st1 hS (fad rfl Tryd.runUnderlying44 rfl Tryd.sizeOf30 rfl) rfl fun a w hS => ?_
  refine st1 hS (ldb 1 rfl hB133 rfl rfl Tryd.isAgg30) rfl fun a w hS => ?_
  refine st1 hS (mv rfl) rfl fun a w hS => ?_
  obtain ⟨hk196, hM⟩ := wp_chk hM
  refine apS 2 hS rfl rfl hV140 rfl Tryd.runUnderlying30 Tryd.runUnderlying9 X.el5 rfl hk196 rfl fun zs201 w A197 c198 f199 hz hV200 hS => ?_
  have hM := lt_to hz hM; clear hz
  refine st1 hS (nck rfl) rfl fun a w hS => ?_
  refine st1 hS (fad rfl Tryd.runUnderlying44 rfl Tryd.sizeOf30 rfl) rfl fun a w hS => ?_
  refine sto 1 ([ptr b134 0, .slice A197 zs201.length c198, .int .i64 r130.limit_]) hS rfl rfl hB133 rfl rfl rfl rfl Tryd.sizeOf30 fun w f202 hB203 hS => ?_
  refine wpList_nil ?_
  exact s_end (rs := []) hS rfl rfl (hret at_193 f194 A197 c198 zs201 f199 f202 w hM h195 hV200 hB203 (hS.st.pick [1, 0, 2] (by kernel_rfl)))

theorem huff_count_c {H : Imm} {F : List Frag} {w : World} {R : Ending → World → Prop} {kr : ((List Int) × Bool) → Prop} {kp : Value → Prop} (hG : Gl H) (K : Nat) (lengths339 : List Int) (A340 : Option Addr) (c341 : Nat) (hr342 : Rdl H [] F (ci .i64) A340 lengths339) (hc343 : lengths339.length ≤ c341)
    (hS : St w H [] F) (hm : (huff_count.m K lengths339).wp kr kp)
    (hret : ∀ (x397 : (List Int)) (x399 : Bool) (w : World), kr (x397, x399) → (x397.length = 16) → St w H [] F → R (.returned (.tuple ⟨[.agg ⟨x397.flatMap (ci .i64)⟩, .bool x399]⟩)) w) :
    Calls Tryd.prog 56 ⟨[.slice A340 lengths339.length c341]⟩ w R := by
  refine enter Tryd.func56 rfl Tryd.ntmps56 rfl hS fun a w hS => ?_
  have hM := hm; clear hm
  rw [huff_count.m] at hM
  refine wp_seq ?_
  refine wp_region_list ?_
  refine alc ((List.replicate 16 (0 : Int)).flatMap (ci .i64)) hS Tryd.zeroValue108 rfl rfl fun w b344 f345 hB346 hS => ?_
  refine st1 hS (asg rfl) rfl fun a w hS => ?_
  refine wpList_nil ?_
  refine then_n ?_
  refine wp_seq ?_
  refine wp_seq ?_
  refine wp_region_list ?_
  refine st1 hS (mv rfl) rfl fun a w hS => ?_
  refine st1 hS (lenV rfl Tryd.runUnderlying67) rfl fun a w hS => ?_
  refine st1 hS (bin rfl rfl rfl) rfl fun a w hS => ?_
  refine wpList_nil ?_
  refine then_n ?_
  refine s_cond hS rfl hM (fun hb347 hM => ?_) (fun hb347 hM => ?_)
  · refine wp_seq ?_
    refine wp_region_list ?_
    refine st1 hS (ldAr (xs := (List.replicate 16 (0 : Int))) (g := (ci .i64)) (pre := []) (post := []) 0 rfl hB346 rfl (by simp) rfl (flat_ln (g := (ci .i64)) (sz := 1) (fun _ => rfl) (List.length_replicate ..)) Tryd.isAgg108 Tryd.sizeOf108) rfl fun a w hS => ?_
    refine stAr (xs := (List.replicate 16 (0 : Int))) (ys := (List.replicate 16 (0 : Int))) (g := (ci .i64)) (pre := []) (post := []) 0 hS rfl rfl hB346 rfl (by simp) rfl (flat_ln (g := (ci .i64)) (sz := 1) (fun _ => rfl) (List.length_replicate ..)) (flat_ln (g := (ci .i64)) (sz := 1) (fun _ => rfl) (List.length_replicate ..)) (one_t3) Tryd.sizeOf108 fun w f348 hB349 hS => ?_
    replace hB349 : Blk f348 b344 ((List.replicate 16 (0 : Int)).flatMap (ci .i64)) 108 := by simpa using hB349
    refine st1 hS (asg rfl) rfl fun a w hS => ?_
    refine wpList_nil ?_
    refine then_n ?_
    refine wp_ret ?_
    refine then_ret ?_
    exact s_retC (vs := [.agg ⟨(List.replicate 16 (0 : Int)).flatMap (ci .i64)⟩, .bool false]) hS rfl (by exact ⟨rvR 0 rfl hB349 rfl (flat_ln (g := (ci .i64)) (sz := 1) (fun _ => rfl) (List.length_replicate ..)) Tryd.isAgg108 Tryd.sizeOf108, rvT rfl, trivial⟩) (hret (List.replicate 16 (0 : Int)) false w hM (List.length_replicate ..) (hS.st.pick [] (by kernel_rfl)))
  · refine wp_skip ?_
    refine then_n ?_
    refine seq_joinJ (fun a w => ∃ (c_386 : (List Int)) (f388 : Frag), Ss 31 [] [(2, ptr b344 0)] H [f388] F a w ∧ (c_386.length = 16) ∧ (Blk f388 b344 (c_386.flatMap (ci .i64)) 108) ∧ (huff_count.j2 K c_386).wp kr kp) (fun J390 hJ390 => ?_) ?_
    · refine wp_seq ?_
      refine wp_region_list ?_
      refine st1 hS (mv rfl) rfl fun a w hS => ?_
      refine st1 hS (lenV rfl Tryd.runUnderlying67) rfl fun a w hS => ?_
      refine st1 hS (mv rfl) rfl fun a w hS => ?_
      refine wpList_nil ?_
      refine then_n ?_
      refine wp_block ?_
      refine s_loopJ (fun k373 a w => ∃ (c_368 : (List Int)) (f370 : Frag) (v372 : Int), Ss 31 [] [(2, ptr b344 0), (10, .slice A340 lengths339.length c341), (11, .int .i64 (lengths339.length : Int)), (12, .int .i64 v372)] H [f370] F a w ∧ (c_368.length = 16) ∧ (Blk f370 b344 (c_368.flatMap (ci .i64)) 108) ∧ (huff_count.l1 K lengths339 k373 c_368 v372).wp kr kp) K ?_ ?_ ?_
      · exact ⟨(List.replicate 16 (0 : Int)), f345, (0 : Int), hS.to [0] (by kernel_rfl) ⟨rfl, rfl, rfl, rfl, trivial⟩, (List.length_replicate ..), hB346, hM⟩
      · intro a w hI; obtain ⟨_, _, _, _, _, _, hM⟩ := hI; exact hM
      · intro k373 a w hI J385 hJ385
        obtain ⟨c_368, f370, v372, hS, hl369, hB371, hM⟩ := hI
        rw [huff_count.l1] at hM
        refine wp_seq ?_
        refine wp_region_list ?_
        refine st1 hS (bin rfl rfl rfl) rfl fun a w hS => ?_
        refine wpList_nil ?_
        refine then_n ?_
        refine wp_seq ?_
        refine s_cond hS rfl hM (fun hb374 hM => ?_) (fun hb374 hM => ?_)
        · refine wp_skip ?_
          refine then_n ?_
          refine wp_seq ?_
          refine wp_block ?_
          refine wp_seq ?_
          refine wp_region_list ?_
          obtain ⟨hk375, hM⟩ := wp_chk hM
          refine st1 hS (ixV rfl rfl Tryd.runUnderlying67 Tryd.sizeOf3 hr342.wk (fun _ => rfl) rfl hk375) rfl fun a w hS => ?_
          refine st1 hS (ldV0 rfl hr342.wk (fun _ => rfl) hk375 rfl Tryd.isAgg3) rfl fun a w hS => ?_
          refine st1x (v := Value.int .i64) hS (asg rfl) rfl fun n_376 a w hz hS => ?_
          have hM := lt_to hz hM; clear hz
          refine wpList_nil ?_
          refine then_n ?_
          refine wp_seq ?_
          refine wp_seq ?_
          refine wp_region_list ?_
          refine st1 hS (mv rfl) rfl fun a w hS => ?_
          refine st1 hS (bin rfl rfl rfl) rfl fun a w hS => ?_
          refine st1 hS (mv rfl) rfl fun a w hS => ?_
          refine g_op 2 false 18 (b := (decide (n_376 < (0 : Int)))) (r := (decide (n_376 > (15 : Int)))) hS rfl rfl rfl rfl rfl rfl rfl (fun hb a w hS K hK => ?_) rfl fun a w hS => ?_
          · refine st1g hS rfl rfl rfl hb (mv rfl) rfl fun a w hS => ?_
            refine st1g hS rfl rfl rfl hb (bin rfl rfl rfl) rfl fun a w hS => ?_
            exact wpList_nil (hK _ _ (hS.up 2 rfl rfl))
          refine wpList_nil ?_
          refine then_n ?_
          refine s_cond hS rfl hM (fun hb377 hM => ?_) (fun hb377 hM => ?_)
          · refine wp_seq ?_
            refine wp_region_list ?_
            refine st1 hS (ldAr (xs := c_368) (g := (ci .i64)) (pre := []) (post := []) 0 rfl hB371 rfl (by simp) rfl (flat_ln (g := (ci .i64)) (sz := 1) (fun _ => rfl) hl369) Tryd.isAgg108 Tryd.sizeOf108) rfl fun a w hS => ?_
            refine stAr (xs := c_368) (ys := c_368) (g := (ci .i64)) (pre := []) (post := []) 0 hS rfl rfl hB371 rfl (by simp) rfl (flat_ln (g := (ci .i64)) (sz := 1) (fun _ => rfl) hl369) (flat_ln (g := (ci .i64)) (sz := 1) (fun _ => rfl) hl369) (one_t3) Tryd.sizeOf108 fun w f378 hB379 hS => ?_
            replace hB379 : Blk f378 b344 (c_368.flatMap (ci .i64)) 108 := by simpa using hB379
            refine st1 hS (asg rfl) rfl fun a w hS => ?_
            refine wpList_nil ?_
            refine then_n ?_
            refine wp_ret ?_
            refine then_ret (blk_ret (then_ret (then_ret (blk_ret (then_ret ?_)))))
            exact s_retC (vs := [.agg ⟨c_368.flatMap (ci .i64)⟩, .bool false]) hS rfl (by exact ⟨rvR 0 rfl hB379 rfl (flat_ln (g := (ci .i64)) (sz := 1) (fun _ => rfl) hl369) Tryd.isAgg108 Tryd.sizeOf108, rvT rfl, trivial⟩) (hret c_368 false w hM hl369 (hS.st.pick [] (by kernel_rfl)))
          · refine wp_skip ?_
            refine then_n ?_
            refine wp_region_list ?_
            refine st1 hS (mv rfl) rfl fun a w hS => ?_
            obtain ⟨hk380, hM⟩ := wp_chk hM
            refine st1 hS (ixB rfl rfl Tryd.runUnderlying108 Tryd.sizeOf3 hk380) rfl fun a w hS => ?_
            refine st1 hS (ldR (xs := c_368) (g := (ci .i64)) (pre := []) (post := []) 0 rfl hB371 rfl (by simp) rfl (fun _ => rfl) (inb_len hl369 hk380) rfl Tryd.isAgg3) rfl fun a w hS => ?_
            refine st1 hS (bin rfl rfl rfl) rfl fun a w hS => ?_
            refine st1 hS (ixB rfl rfl Tryd.runUnderlying108 Tryd.sizeOf3 hk380) rfl fun a w hS => ?_
            refine stR (xs := c_368) (g := (ci .i64)) (pre := []) (post := []) 0 ((w64 ((rd c_368 n_376) + (1 : Int)))) hS rfl rfl hB371 rfl (by simp) rfl (fun _ => rfl) (inb_len hl369 hk380) rfl Tryd.sizeOf3 (one_t3 _) fun zs383 w f381 hz hB382 hS => ?_
            have hl384 : zs383.length = 16 := by rw [hz, List.length_set]; exact hl369
            have hM := lt_to hz hM; clear hz
            replace hB382 : Blk f381 b344 (zs383.flatMap (ci .i64)) 108 := by simpa using hB382
            refine wpList_nil ?_
            refine blk_n (then_n ?_)
            refine wp_region_list ?_
            refine st1 hS (bin rfl rfl rfl) rfl fun a w hS => ?_
            refine st1 hS (mv rfl) rfl fun a w hS => ?_
            refine wpList_nil ?_
            refine then_n ?_
            exact hJ385 _ _ ⟨zs383, f381, (w64 (v372 + (1 : Int))), hS.to [0] (by kernel_rfl) ⟨rfl, rfl, rfl, rfl, trivial⟩, hl384, hB382, hM⟩
        · refine wp_exit ?_
          refine then_ex (then_ex (blk_same (then_n ?_)))
          exact hJ390 _ _ ⟨c_368, f370, hS.to [0] (by kernel_rfl) ⟨rfl, trivial⟩, hl369, hB371, hM⟩
    · intro a w hI
      obtain ⟨c_386, f388, hS, hl387, hB389, hM⟩ := hI
      rw [huff_count.j2] at hM
      refine wp_seq ?_
      refine wp_region_list ?_
      refine st1 hS (ixB rfl rfl Tryd.runUnderlying108 Tryd.sizeOf3 rfl) rfl fun a w hS => ?_
      refine stR (xs := c_386) (g := (ci .i64)) (pre := []) (post := []) 0 ((0 : Int)) hS rfl rfl hB389 rfl (by simp) rfl (fun _ => rfl) (inb_len hl387 rfl) rfl Tryd.sizeOf3 (one_t3 _) fun zs393 w f391 hz hB392 hS => ?_
      have hl394 : zs393.length = 16 := by rw [hz, List.length_set]; exact hl387
      have hM := lt_to hz hM; clear hz
      replace hB392 : Blk f391 b344 (zs393.flatMap (ci .i64)) 108 := by simpa using hB392
      refine wpList_nil ?_
      refine then_n ?_
      refine wp_seq ?_
      refine wp_region_list ?_
      refine st1 hS (ldAr (xs := zs393) (g := (ci .i64)) (pre := []) (post := []) 0 rfl hB392 rfl (by simp) rfl (flat_ln (g := (ci .i64)) (sz := 1) (fun _ => rfl) hl394) Tryd.isAgg108 Tryd.sizeOf108) rfl fun a w hS => ?_
      refine stAr (xs := zs393) (ys := zs393) (g := (ci .i64)) (pre := []) (post := []) 0 hS rfl rfl hB392 rfl (by simp) rfl (flat_ln (g := (ci .i64)) (sz := 1) (fun _ => rfl) hl394) (flat_ln (g := (ci .i64)) (sz := 1) (fun _ => rfl) hl394) (one_t3) Tryd.sizeOf108 fun w f395 hB396 hS => ?_
      replace hB396 : Blk f395 b344 (zs393.flatMap (ci .i64)) 108 := by simpa using hB396
      refine st1 hS (asg rfl) rfl fun a w hS => ?_
      refine wpList_nil ?_
      refine then_n ?_
      refine wp_ret ?_
      exact s_retC (vs := [.agg ⟨zs393.flatMap (ci .i64)⟩, .bool true]) hS rfl (by exact ⟨rvR 0 rfl hB396 rfl (flat_ln (g := (ci .i64)) (sz := 1) (fun _ => rfl) hl394) Tryd.isAgg108 Tryd.sizeOf108, rvT rfl, trivial⟩) (hret zs393 true w hM hl394 (hS.st.pick [] (by kernel_rfl)))

theorem huff_Check_c {H : Imm} {F : List Frag} {w : World} {R : Ending → World → Prop} {kr : Int → Prop} {kp : Value → Prop} (hG : Gl H) (K : Nat) (lengths334 : List Int) (A335 : Option Addr) (c336 : Nat) (hr337 : Rdl H [] F (ci .i64) A335 lengths334) (hc338 : lengths334.length ≤ c336)
    (hS : St w H [] F) (hm : (huff_Check.m K lengths334).wp kr kp)
    (hret : ∀ (x421 : Int) (w : World), kr x421 → St w H [] F → R (.returned (.int .i64 x421)) w) :
    Calls Tryd.prog 55 ⟨[.slice A335 lengths334.length c336]⟩ w R := by
  refine enter Tryd.func55 rfl Tryd.ntmps55 rfl hS fun a w hS => ?_
  have hM := hm; clear hm
  rw [huff_Check.m] at hM
  refine wp_seq ?_
  refine wp_region_list ?_
  refine st1 hS (asg rfl) rfl fun a w hS => ?_
  refine wpList_nil ?_
  refine then_n ?_
  refine wp_seq ?_
  refine wp_region_list ?_
  refine st1 hS (mv rfl) rfl fun a w hS => ?_
  refine s_call hS rfl Tryd.call56 (huff_count_c hG K lengths334 A335 c336 (hr337.app _) hc338 (hS.st.part 0 [] (by kernel_rfl)) (wp_bind hM) (fun x400 x401 w hM h402 hst => s_back hS.ev hst.appF rfl fun hS => ?_))
  replace hS : Ss _ _ _ H [] F _ _ := hS
  refine st1 hS (mv rfl) rfl fun a w hS => ?_
  refine st1 hS (ex rfl rfl) rfl fun a w hS => ?_
  refine st1 hS (ex rfl rfl) rfl fun a w hS => ?_
  refine alc ((List.replicate 16 (0 : Int)).flatMap (ci .i64)) hS Tryd.zeroValue108 rfl rfl fun w b403 f404 hB405 hS => ?_
  refine stAr (xs := (List.replicate 16 (0 : Int))) (ys := x400) (g := (ci .i64)) (pre := []) (post := []) 0 hS rfl rfl hB405 rfl (by simp) rfl (flat_ln (g := (ci .i64)) (sz := 1) (fun _ => rfl) (List.length_replicate ..)) (flat_ln (g := (ci .i64)) (sz := 1) (fun _ => rfl) h402) (one_t3) Tryd.sizeOf108 fun w f406 hB407 hS => ?_
  replace hB407 : Blk f406 b403 (x400.flatMap (ci .i64)) 108 := by simpa using hB407
  refine st1 hS (asg rfl) rfl fun a w hS => ?_
  refine wpList_nil ?_
  refine then_n ?_
  refine wp_seq ?_
  refine wp_seq ?_
  refine wp_region_list ?_
  refine st1 hS (mv rfl) rfl fun a w hS => ?_
  refine st1 hS (un rfl rfl) rfl fun a w hS => ?_
  refine wpList_nil ?_
  refine then_n ?_
  refine s_cond hS rfl hM (fun hb408 hM => ?_) (fun hb408 hM => ?_)
  · refine wp_seq ?_
    refine wp_region_list ?_
    refine st1 hS (asg rfl) rfl fun a w hS => ?_
    refine wpList_nil ?_
    refine then_n ?_
    refine wp_ret ?_
    refine then_ret ?_
    exact s_ret (rs := [2]) hS rfl rfl (hret (1 : Int) w hM (hS.st.pick [] (by kernel_rfl)))
  · refine wp_skip ?_
    refine then_n ?_
    refine wp_seq ?_
    refine wp_region_list ?_
    refine st1 hS (asg rfl) rfl fun a w hS => ?_
    refine wpList_nil ?_
    refine then_n ?_
    refine seq_joinJ (fun a w => ∃ (sum418 : Int), Ss 38 [] [(3, ptr b403 0), (5, .int .i64 sum418)] H [f406] F a w ∧ (huff_Check.j2 K x400 sum418).wp kr kp) (fun J419 hJ419 => ?_) ?_
    · refine wp_seq ?_
      refine wp_region_list ?_
      refine st1 hS (ldAr (xs := x400) (g := (ci .i64)) (pre := []) (post := []) 0 rfl hB407 rfl (by simp) rfl (flat_ln (g := (ci .i64)) (sz := 1) (fun _ => rfl) h402) Tryd.isAgg108 Tryd.sizeOf108) rfl fun a w hS => ?_
      refine st1 hS (mv rfl) rfl fun a w hS => ?_
      refine wpList_nil ?_
      refine then_n ?_
      refine wp_block ?_
      refine s_loopJ (fun k411 a w => ∃ (sum409 : Int) (v410 : Int), Ss 38 [] [(3, ptr b403 0), (5, .int .i64 sum409), (15, .agg ⟨x400.flatMap (ci .i64)⟩), (16, .int .i64 v410)] H [f406] F a w ∧ (huff_Check.l1 K x400 k411 sum409 v410).wp kr kp) K ?_ ?_ ?_
      · exact ⟨(0 : Int), (0 : Int), hS.to [0] (by kernel_rfl) ⟨rfl, rfl, rfl, rfl, trivial⟩, hM⟩
      · intro a w hI; obtain ⟨_, _, _, hM⟩ := hI; exact hM
      · intro k411 a w hI J417 hJ417
        obtain ⟨sum409, v410, hS, hM⟩ := hI
        rw [huff_Check.l1] at hM
        refine wp_seq ?_
        refine wp_region_list ?_
        refine st1 hS (bin rfl rfl rfl) rfl fun a w hS => ?_
        refine wpList_nil ?_
        refine then_n ?_
        refine wp_seq ?_
        refine s_cond hS rfl hM (fun hb412 hM => ?_) (fun hb412 hM => ?_)
        · refine wp_skip ?_
          refine then_n ?_
          refine wp_seq ?_
          refine wp_block ?_
          refine wp_seq ?_
          refine wp_region_list ?_
          refine st1 hS (mv rfl) rfl fun a w hS => ?_
          obtain ⟨hk413, hM⟩ := wp_chk hM
          refine st1 hS (ixA rfl rfl Tryd.runUnderlying108 Tryd.isAgg3 Tryd.sizeOf3 (fun _ => rfl) h402 hk413 rfl) rfl fun a w hS => ?_
          refine st1 hS (asg rfl) rfl fun a w hS => ?_
          refine st1x (v := Value.int .i64) hS (asg rfl) rfl fun k_414 a w hz hS => ?_
          have hM := lt_to hz hM; clear hz
          refine wpList_nil ?_
          refine then_n ?_
          refine wp_region_list ?_
          refine st1 hS (mv rfl) rfl fun a w hS => ?_
          refine st1 hS (mv rfl) rfl fun a w hS => ?_
          refine st1 hS (mv rfl) rfl fun a w hS => ?_
          obtain ⟨hk415, hM⟩ := wp_chk hM
          refine st1 hS (shr rfl rfl hk415) rfl fun a w hS => ?_
          refine st1 hS (bin rfl rfl rfl) rfl fun a w hS => ?_
          refine st1 hS (bin rfl rfl rfl) rfl fun a w hS => ?_
          refine st1x (v := Value.int .i64) hS (asg rfl) rfl fun sum416 a w hz hS => ?_
          have hM := lt_to hz hM; clear hz
          refine wpList_nil ?_
          refine blk_n (then_n ?_)
          refine wp_region_list ?_
          refine st1 hS (bin rfl rfl rfl) rfl fun a w hS => ?_
          refine st1 hS (mv rfl) rfl fun a w hS => ?_
          refine wpList_nil ?_
          refine then_n ?_
          exact hJ417 _ _ ⟨sum416, (w64 (v410 + (1 : Int))), hS.to [0] (by kernel_rfl) ⟨rfl, rfl, rfl, rfl, trivial⟩, hM⟩
        · refine wp_exit ?_
          refine then_ex (then_ex (blk_same (then_n ?_)))
          exact hJ419 _ _ ⟨sum409, hS.to [0] (by kernel_rfl) ⟨rfl, rfl, trivial⟩, hM⟩
    · intro a w hI
      obtain ⟨sum418, hS, hM⟩ := hI
      rw [huff_Check.j2] at hM
      refine wp_seq ?_
      refine wp_seq ?_
      refine wp_region_list ?_
      refine st1 hS (mv rfl) rfl fun a w hS => ?_
      refine st1 hS (bin rfl rfl rfl) rfl fun a w hS => ?_
      refine st1 hS (mv rfl) rfl fun a w hS => ?_
      refine g_op 2 false 29 (b := (sum418 == (0 : Int))) (r := (sum418 == (32768 : Int))) hS rfl rfl rfl rfl rfl rfl rfl (fun hb a w hS K hK => ?_) rfl fun a w hS => ?_
      · refine st1g hS rfl rfl rfl hb (mv rfl) rfl fun a w hS => ?_
        refine st1g hS rfl rfl rfl hb (bin rfl rfl rfl) rfl fun a w hS => ?_
        exact wpList_nil (hK _ _ (hS.up 2 rfl rfl))
      refine st1 hS (mv rfl) rfl fun a w hS => ?_
      refine g_op 3 false 33 (b := ((sum418 == (0 : Int)) || (sum418 == (32768 : Int)))) (r := (x400 == ([0, (1 : Int), 0, 0, 0, 0, 0, 0, 0, 0, 0, 0, 0, 0, 0, 0] : List Int))) hS rfl rfl rfl rfl rfl rfl rfl (fun hb a w hS K hK => ?_) rfl fun a w hS => ?_
      · refine st1g hS rfl rfl rfl hb (ldAr (xs := x400) (g := (ci .i64)) (pre := []) (post := []) 0 rfl hB407 rfl (by simp) rfl (flat_ln (g := (ci .i64)) (sz := 1) (fun _ => rfl) h402) Tryd.isAgg108 Tryd.sizeOf108) rfl fun a w hS => ?_
        refine st1g hS rfl rfl rfl hb (bldAr (([0, (1 : Int), 0, 0, 0, 0, 0, 0, 0, 0, 0, 0, 0, 0, 0, 0] : List Int).flatMap (ci .i64)) Tryd.zeroValue108 Tryd.runUnderlying108 Tryd.sizeOf3 rfl (by kernel_rfl)) rfl fun a w hS => ?_
        refine st1g hS rfl rfl rfl hb (eqArr rfl rfl Tryd.runUnderlying108 Tryd.runUnderlying3 Tryd.sizeOf3 Tryd.isAgg3 h402 rfl Tryd.eqGuardType108 rfl) rfl fun a w hS => ?_
        exact wpList_nil (hK _ _ (hS.up 3 rfl rfl))
      refine wpList_nil ?_
      refine then_n ?_
      refine s_cond hS rfl hM (fun hb420 hM => ?_) (fun hb420 hM => ?_)
      · refine wp_seq ?_
        refine wp_region_list ?_
        refine st1 hS (asg rfl) rfl fun a w hS => ?_
        refine wpList_nil ?_
        refine then_n ?_
        refine wp_ret ?_
        refine then_ret ?_
        exact s_ret (rs := [2]) hS rfl rfl (hret (0 : Int) w hM (hS.st.pick [] (by kernel_rfl)))
      · refine wp_skip ?_
        refine then_n ?_
        refine wp_seq ?_
        refine wp_region_list ?_
        refine st1 hS (asg rfl) rfl fun a w hS => ?_
        refine wpList_nil ?_
        refine then_n ?_
        refine wp_ret ?_
        exact s_ret (rs := [2]) hS rfl rfl (hret (3 : Int) w hM (hS.st.pick [] (by kernel_rfl)))

def T_huff_Table.Own (b564 : Nat) (x565 : T_huff_Table) (f573 : Frag) : Prop :=
  ∃ (f566 : Frag) (A569 : Option Addr) (c570 : Nat) (f571 : Frag), f573 = f566 ++ f571 ∧ Blk f566 b564 ((x565.counts_.flatMap (ci .i64)) ++ [.slice A569 x565.symbols_.length c570]) 110 ∧ x565.counts_.length = 16 ∧ Vec 3 (ci .i64) 1 A569 x565.symbols_ c570 f571

theorem huff_New_c {H : Imm} {F : List Frag} {w : World} {R : Ending → World → Prop} {kr : ((Option T_huff_Table) × Int) → Prop} {kp : Value → Prop} (hG : Gl H) (K : Nat) (lengths329 : List Int) (A330 : Option Addr) (c331 : Nat) (hr332 : Rdl H [] F (ci .i64) A330 lengths329) (hc333 : lengths329.length ≤ c331)
    (hS : St w H [] F) (hm : (huff_New.m K lengths329).wp kr kp)
    (hret : ∀ (A574 : Option Addr) (x575 : Option T_huff_Table) (f576 : Frag) (x578 : Int) (w : World), kr (x575, x578) → (Opt T_huff_Table.Own A574 x575 f576) → St w H [f576] F → R (.returned (.tuple ⟨[.pointer A574, .int .i64 x578]⟩)) w) :
    Calls Tryd.prog 49 ⟨[.slice A330 lengths329.length c331]⟩ w R := by
  refine enter Tryd.func49 rfl Tryd.ntmps49 rfl hS fun a w hS => ?_
  have hM := hm; clear hm
  rw [huff_New.m] at hM
  refine wp_seq ?_
  refine wp_region_list ?_
  refine st1 hS (asg rfl) rfl fun a w hS => ?_
  refine st1 hS (asg rfl) rfl fun a w hS => ?_
  refine wpList_nil ?_
  refine then_n ?_
  refine wp_seq ?_
  refine wp_seq ?_
  refine wp_region_list ?_
  refine st1 hS (mv rfl) rfl fun a w hS => ?_
  refine s_call hS rfl Tryd.call55 (huff_Check_c hG K lengths329 A330 c331 (hr332.app _) hc333 (hS.st.part 0 [] (by kernel_rfl)) (wp_bind hM) (fun x422 w hM  hst => s_back hS.ev hst.appF rfl fun hS => ?_))
  replace hS : Ss _ _ _ H [] F _ _ := hS
  refine st1 hS (asg rfl) rfl fun a w hS => ?_
  refine wpList_nil ?_
  refine then_n ?_
  refine wp_seq ?_
  refine wp_region_list ?_
  refine st1 hS (mv rfl) rfl fun a w hS => ?_
  refine st1 hS (bin rfl rfl rfl) rfl fun a w hS => ?_
  refine wpList_nil ?_
  refine then_n ?_
  refine s_cond hS rfl hM (fun hb423 hM => ?_) (fun hb423 hM => ?_)
  · refine wp_seq ?_
    refine wp_region_list ?_
    refine st1 hS (mv rfl) rfl fun a w hS => ?_
    refine st1 hS (asg rfl) rfl fun a w hS => ?_
    refine st1 hS (asg rfl) rfl fun a w hS => ?_
    refine wpList_nil ?_
    refine then_n ?_
    refine wp_ret ?_
    refine then_ret ?_
    replace hS := hS.nilF
    exact s_ret (rs := [2, 3]) hS rfl rfl (hret none none ([] : Frag) x422 w hM (.inl ⟨rfl, rfl, rfl⟩) (hS.st.pick [0] (by kernel_rfl)))
  · refine wp_skip ?_
    refine then_n ?_
    refine wp_seq ?_
    refine wp_region_list ?_
    refine st1 hS (bld (((List.replicate 16 (0 : Int)).flatMap (ci .i64)) ++ [.slice none 0 0]) [(0, 16), (16, 1)] Tryd.zeroValue110 Tryd.runUnderlying110 (by intro w; simp [Tryd.sizeOf108, Tryd.sizeOf67]) rfl rfl) rfl fun a w hS => ?_
    refine bx (((List.replicate 16 (0 : Int)).flatMap (ci .i64)) ++ [.slice none 0 0]) hS rfl rfl rfl fun w b424 f425 hB426 hS => ?_
    obtain ⟨f427, hV428, hS⟩ := hS.nilV 3 (ci .i64) 1
    refine st1 hS (asg rfl) rfl fun a w hS => ?_
    refine wpList_nil ?_
    refine then_n ?_
    refine wp_seq ?_
    refine wp_region_list ?_
    refine st1 hS (mv rfl) rfl fun a w hS => ?_
    refine st1 hS (mv rfl) rfl fun a w hS => ?_
    refine s_call hS rfl Tryd.call56 (huff_count_c hG K lengths329 A330 c331 (hr332.app _) hc333 (hS.st.part 0 [0, 1] (by kernel_rfl)) (wp_bind hM) (fun x429 x430 w hM h431 hst => s_back hS.ev hst.appF rfl fun hS => ?_))
    replace hS : Ss _ _ _ H [f427, f425] F _ _ := hS
    refine st1 hS (mv rfl) rfl fun a w hS => ?_
    refine st1 hS (ex rfl rfl) rfl fun a w hS => ?_
    refine st1 hS (ex rfl rfl) rfl fun a w hS => ?_
    refine st1 hS (nck rfl) rfl fun a w hS => ?_
    refine st1 hS (fad rfl Tryd.runUnderlying110 rfl Tryd.sizeOf108 rfl) rfl fun a w hS => ?_
    refine stAr (xs := (List.replicate 16 (0 : Int))) (ys := x429) (g := (ci .i64)) (pre := []) (post := [.slice none ([] : List Int).length (0)]) 1 hS rfl rfl hB426 rfl (by simp) rfl (flat_ln (g := (ci .i64)) (sz := 1) (fun _ => rfl) (List.length_replicate ..)) (flat_ln (g := (ci .i64)) (sz := 1) (fun _ => rfl) h431) (one_t3) Tryd.sizeOf108 fun w f432 hB433 hS => ?_
    replace hB433 : Blk f432 b424 ((x429.flatMap (ci .i64)) ++ [.slice none ([] : List Int).length (0)]) 110 := by simpa using hB433
    refine wpList_nil ?_
    refine then_n ?_
    refine wp_seq ?_
    refine wp_seq ?_
    refine wp_region_list ?_
    refine st1 hS (asg rfl) rfl fun a w hS => ?_
    refine wpList_nil ?_
    refine then_n ?_
    refine wp_block ?_
    refine s_loopJ (fun k507 a w => ∃ (A499 : Option Addr) (c500 : Nat) (symbols501 : (List Int)) (f502 : Frag) (f504 : Frag) (n_506 : Int), Ss 50 [] [(0, .slice A330 lengths329.length c331), (5, ptr b424 0), (6, .int .i64 n_506)] H [f504, f502] F a w ∧ (Vec 3 (ci .i64) 1 A499 symbols501 c500 f502) ∧ (Blk f504 b424 ((x429.flatMap (ci .i64)) ++ [.slice A499 symbols501.length c500]) 110) ∧ (huff_New.l1 K lengths329 x429 k507 symbols501 n_506).wp kr kp) K ?_ ?_ ?_
    · exact ⟨none, 0, ([] : List Int), f427, f432, (1 : Int), hS.to [1, 0] (by kernel_rfl) ⟨rfl, rfl, rfl, trivial⟩, hV428, hB433, hM⟩
    · intro a w hI; obtain ⟨_, _, _, _, _, _, _, _, _, hM⟩ := hI; exact hM
    · intro k507 a w hI J563 hJ563
      obtain ⟨A499, c500, symbols501, f502, f504, n_506, hS, hV503, hB505, hM⟩ := hI
      rw [huff_New.l1] at hM
      refine wp_seq ?_
      refine wp_seq ?_
      refine wp_region_list ?_
      refine st1 hS (mv rfl) rfl fun a w hS => ?_
      refine st1 hS (bin rfl rfl rfl) rfl fun a w hS => ?_
      refine wpList_nil ?_
      refine then_n ?_
      refine s_cond hS rfl hM (fun hb508 hM => ?_) (fun hb508 hM => ?_)
      · refine wp_skip ?_
        refine then_n ?_
        refine wp_seq ?_
        refine wp_block ?_
        refine wp_seq ?_
        refine wp_region_list ?_
        refine st1 hS (mv rfl) rfl fun a w hS => ?_
        refine st1 hS (lenV rfl Tryd.runUnderlying67) rfl fun a w hS => ?_
        refine st1 hS (mv rfl) rfl fun a w hS => ?_
        refine wpList_nil ?_
        refine then_n ?_
        refine wp_block ?_
        refine s_loopJ (fun k544 a w => ∃ (A536 : Option Addr) (c537 : Nat) (symbols538 : (List Int)) (f539 : Frag) (f541 : Frag) (v543 : Int), Ss 50 [] [(0, .slice A330 lengths329.length c331), (5, ptr b424 0), (6, .int .i64 n_506), (28, .slice A330 lengths329.length c331), (29, .int .i64 (lengths329.length : Int)), (30, .int .i64 v543)] H [f541, f539] F a w ∧ (Vec 3 (ci .i64) 1 A536 symbols538 c537 f539) ∧ (Blk f541 b424 ((x429.flatMap (ci .i64)) ++ [.slice A536 symbols538.length c537]) 110) ∧ (huff_New.l2 K (huff_New.l1 K lengths329 x429 k507) lengths329 n_506 k544 symbols538 v543).wp kr kp) K ?_ ?_ ?_
        · exact ⟨A499, c500, symbols501, f502, f504, (0 : Int), hS.to [0, 1] (by kernel_rfl) ⟨rfl, rfl, rfl, rfl, rfl, rfl, trivial⟩, hV503, hB505, hM⟩
        · intro a w hI; obtain ⟨_, _, _, _, _, _, _, _, _, hM⟩ := hI; exact hM
        · intro k544 a w hI J562 hJ562
          obtain ⟨A536, c537, symbols538, f539, f541, v543, hS, hV540, hB542, hM⟩ := hI
          rw [huff_New.l2] at hM
          refine wp_seq ?_
          refine wp_region_list ?_
          refine st1 hS (bin rfl rfl rfl) rfl fun a w hS => ?_
          refine wpList_nil ?_
          refine then_n ?_
          refine wp_seq ?_
          refine s_cond hS rfl hM (fun hb545 hM => ?_) (fun hb545 hM => ?_)
          · refine wp_skip ?_
            refine then_n ?_
            refine wp_seq ?_
            refine wp_block ?_
            refine wp_seq ?_
            refine wp_region_list ?_
            refine st1 hS (mv rfl) rfl fun a w hS => ?_
            obtain ⟨hk547, hM⟩ := wp_chk hM
            refine st1 hS (ixV rfl rfl Tryd.runUnderlying67 Tryd.sizeOf3 hr332.wk (fun _ => rfl) rfl hk547) rfl fun a w hS => ?_
            refine st1 hS (ldV0 rfl hr332.wk (fun _ => rfl) hk547 rfl Tryd.isAgg3) rfl fun a w hS => ?_
            refine st1 hS (asg rfl) rfl fun a w hS => ?_
            refine st1x (v := Value.int .i64) hS (asg rfl) rfl fun k_548 a w hz hS => ?_
            have hM := lt_to hz hM; clear hz
            refine wpList_nil ?_
            refine then_n ?_
            refine wp_seq ?_
            refine wp_region_list ?_
            refine st1 hS (mv rfl) rfl fun a w hS => ?_
            refine st1 hS (mv rfl) rfl fun a w hS => ?_
            refine st1 hS (bin rfl rfl rfl) rfl fun a w hS => ?_
            refine wpList_nil ?_
            refine then_n ?_
            refine s_cond hS rfl hM (fun hb549 hM => ?_) (fun hb549 hM => ?_)
            · refine wp_region_list ?_
              refine st1 hS (mv rfl) rfl fun a w hS => ?_
              refine st1 hS (mv rfl) rfl fun a w hS => ?_
              refine st1 hS (nck rfl) rfl fun a w hS => ?_
              refine st1 hS (fad rfl Tryd.runUnderlying110 rfl Tryd.sizeOf67 rfl) rfl fun a w hS => ?_
              refine st1 hS (ldP 0 rfl hB542 rfl (by rfl) (flat_ln (g := (ci .i64)) (sz := 1) (fun _ => rfl) h431) Tryd.isAgg67) rfl fun a w hS => ?_
              refine st1 hS (mv rfl) rfl fun a w hS => ?_
              refine bsl (g := (ci .i64)) ([v543] : List Int) [.int .i64 v543] hS Tryd.runUnderlying67 Tryd.sizeOf3 X.el3 rfl rfl rfl (by simp [Value.cells]) rfl rfl rfl rfl rfl fun w A550 c551 f552 hV553 hS => ?_
              obtain ⟨hk554, hM⟩ := wp_chk hM
              refine apV (ys := ([v543] : List Int)) 2 hS rfl rfl hV540 rfl (hV553.rd (i := 0) rfl) Tryd.runUnderlying67 Tryd.runUnderlying67 X.el3 (fun _ => rfl) rfl one_t3 hk554 rfl fun zs559 w A555 c556 f557 hz hV558 hS => ?_
              have hM := lt_to hz hM; clear hz
              refine st1 hS (nck rfl) rfl fun a w hS => ?_
              refine st1 hS (fad rfl Tryd.runUnderlying110 rfl Tryd.sizeOf67 rfl) rfl fun a w hS => ?_
              refine stP 1 hS rfl rfl hB542 rfl rfl (flat_ln (g := (ci .i64)) (sz := 1) (fun _ => rfl) h431) rfl Tryd.sizeOf67 fun w f560 hB561 hS => ?_
              refine wpList_nil ?_
              refine blk_n (then_n ?_)
              refine wp_region_list ?_
              refine st1 hS (bin rfl rfl rfl) rfl fun a w hS => ?_
              refine st1 hS (mv rfl) rfl fun a w hS => ?_
              refine wpList_nil ?_
              refine then_n ?_
              exact hJ562 _ _ ⟨A555, c556, zs559, f557, f560, (w64 (v543 + (1 : Int))), hS.to [1, 2] (by kernel_rfl) ⟨rfl, rfl, rfl, rfl, rfl, rfl, trivial⟩, hV558, hB561, hM⟩
            · refine wp_skip ?_
              refine blk_n (then_n ?_)
              refine wp_region_list ?_
              refine st1 hS (bin rfl rfl rfl) rfl fun a w hS => ?_
              refine st1 hS (mv rfl) rfl fun a w hS => ?_
              refine wpList_nil ?_
              refine then_n ?_
              exact hJ562 _ _ ⟨A536, c537, symbols538, f539, f541, (w64 (v543 + (1 : Int))), hS.to [0, 1] (by kernel_rfl) ⟨rfl, rfl, rfl, rfl, rfl, rfl, trivial⟩, hV540, hB542, hM⟩
          · refine wp_exit ?_
            refine then_ex (then_ex (blk_same (blk_n (then_n ?_))))
            refine wp_region_list ?_
            refine st1 hS (mv rfl) rfl fun a w hS => ?_
            refine st1 hS (bin rfl rfl rfl) rfl fun a w hS => ?_
            refine st1x (v := Value.int .i64) hS (asg rfl) rfl fun n_546 a w hz hS => ?_
            have hM := lt_to hz hM; clear hz
            refine wpList_nil ?_
            refine then_n ?_
            exact hJ563 _ _ ⟨A536, c537, symbols538, f539, f541, n_546, hS.to [0, 1] (by kernel_rfl) ⟨rfl, rfl, rfl, trivial⟩, hV540, hB542, hM⟩
      · refine wp_exit ?_
        refine then_ex (then_ex (blk_same (then_n ?_)))
        refine wp_seq ?_
        refine wp_region_list ?_
        refine st1 hS (mv rfl) rfl fun a w hS => ?_
        refine st1 hS (asg rfl) rfl fun a w hS => ?_
        refine st1 hS (asg rfl) rfl fun a w hS => ?_
        refine wpList_nil ?_
        refine then_n ?_
        refine wp_ret ?_
        replace hS := hS.front [0, 1] (by kernel_rfl)
        replace hS := hS.joinF
        exact s_ret (rs := [2, 3]) hS rfl rfl (hret (some ⟨b424, 0, none⟩) (some (T_huff_Table.mk x429 symbols501)) (f504 ++ f502) (0 : Int) w hM (.inr ⟨_, _, rfl, rfl, f504, A499, c500, f502, rfl, hB505, h431, hV503⟩) (hS.st.pick [0] (by kernel_rfl)))

theorem inflate_table_c {H : Imm} {F : List Frag} {w : World} {R : Ending → World → Prop} {kr : (Option T_huff_Table) → Prop} {kp : Value → Prop} (hG : Gl H) (K : Nat) (l_324 : List Int) (A325 : Option Addr) (c326 : Nat) (hr327 : Rdl H [] F (ci .i64) A325 l_324) (hc328 : l_324.length ≤ c326)
    (hS : St w H [] F) (hm : (inflate_table.m K l_324).wp kr kp)
    (hret : ∀ (A584 : Option Addr) (x585 : Option T_huff_Table) (f586 : Frag) (w : World), kr x585 → (Opt T_huff_Table.Own A584 x585 f586) → St w H [f586] F → R (.returned (.pointer A584)) w)
    (hpan : ∀ v w, kp v → St w H [] F → R (.panicked [⟨v, false, false⟩]) w) :
    Calls Tryd.prog 38 ⟨[.slice A325 l_324.length c326]⟩ w R := by
  refine enter Tryd.func38 rfl Tryd.ntmps38 rfl hS fun a w hS => ?_
  have hM := hm; clear hm
  rw [inflate_table.m] at hM
  refine wp_seq ?_
  refine wp_region_list ?_
  refine st1 hS (asg rfl) rfl fun a w hS => ?_
  refine wpList_nil ?_
  refine then_n ?_
  refine wp_seq ?_
  refine wp_region_list ?_
  refine st1 hS (mv rfl) rfl fun a w hS => ?_
  refine s_call hS rfl Tryd.call49 (huff_New_c hG K l_324 A325 c326 (hr327.app _) hc328 (hS.st.part 0 [] (by kernel_rfl)) (wp_bind hM) (fun A579 x580 f581 x582 w hM h583 hst => s_back hS.ev hst.appF rfl fun hS => ?_))
  replace hS : Ss _ _ _ H [f581] F _ _ := hS
  refine st1 hS (mv rfl) rfl fun a w hS => ?_
  refine st1 hS (ex rfl rfl) rfl fun a w hS => ?_
  refine st1 hS (ex rfl rfl) rfl fun a w hS => ?_
  refine st1 hS (asg rfl) rfl fun a w hS => ?_
  refine st1 hS (asg rfl) rfl fun a w hS => ?_
  refine wpList_nil ?_
  refine then_n ?_
  refine wp_seq ?_
  refine wp_region_list ?_
  refine st1 hS (mv rfl) rfl fun a w hS => ?_
  refine st1 hS (bin rfl rfl rfl) rfl fun a w hS => ?_
  refine s_call hS rfl Tryd.call26 (inflate_refuse_c hG K (x582 != (0 : Int)) (3 : Int) (hS.st.part 0 [0] (by kernel_rfl)) (wp_bind hM) (fun  w hM  hst => s_back hS.ev hst.appF rfl fun hS => ?_) (fun v w hk hst => s_pan (then_pan (⟨hS.ev.defs, hpan _ _ hk hst.appF.frame⟩))))
  replace hS : Ss _ _ _ H [f581] F _ _ := hS
  refine wpList_nil ?_
  refine then_n ?_
  refine wp_seq ?_
  refine wp_region_list ?_
  refine st1 hS (mv rfl) rfl fun a w hS => ?_
  refine st1 hS (asg rfl) rfl fun a w hS => ?_
  refine wpList_nil ?_
  refine then_n ?_
  refine wp_ret ?_
  exact s_ret (rs := [2]) hS rfl rfl (hret A579 x580 f581 w hM h583 (hS.st.pick [0] (by kernel_rfl)))

theorem inflate_fixed_c {H : Imm} {F : List Frag} {w : World} {R : Ending → World → Prop} {kr : ((Option T_huff_Table) × (Option T_huff_Table)) → Prop} {kp : Value → Prop} (hG : Gl H) (K : Nat)
    (hS : St w H [] F) (hm : (inflate_fixed.m K).wp kr kp)
    (hret : ∀ (A596 : Option Addr) (x597 : Option T_huff_Table) (f598 : Frag) (A600 : Option Addr) (x601 : Option T_huff_Table) (f602 : Frag) (w : World), kr (x597, x601) → (Opt T_huff_Table.Own A596 x597 f598) → (Opt T_huff_Table.Own A600 x601 f602) → St w H [f598, f602] F → R (.returned (.tuple ⟨[.pointer A596, .pointer A600]⟩)) w)
    (hpan : ∀ v w, kp v → St w H [] F → R (.panicked [⟨v, false, false⟩]) w) :
    Calls Tryd.prog 24 ⟨[]⟩ w R := by
  refine enter Tryd.func24 rfl Tryd.ntmps24 rfl hS fun a w hS => ?_
  have hM := hm; clear hm
  rw [inflate_fixed.m] at hM
  refine wp_seq ?_
  refine wp_region_list ?_
  refine st1 hS (asg rfl) rfl fun a w hS => ?_
  refine st1 hS (asg rfl) rfl fun a w hS => ?_
  refine wpList_nil ?_
  refine then_n ?_
  refine wp_seq ?_
  refine wp_region_list ?_
  refine alc ((List.replicate 288 (0 : Int)).flatMap (ci .i64)) hS Tryd.zeroValue86 (by kernel_rfl) rfl fun w b226 f227 hB228 hS => ?_
  refine wpList_nil ?_
  refine then_n ?_
  refine seq_joinJ (fun a w => ∃ (l_285 : (List Int)) (f287 : Frag), Ss 38 [] [(2, ptr b226 0)] H [f287] F a w ∧ (l_285.length = 288) ∧ (Blk f287 b226 (l_285.flatMap (ci .i64)) 86) ∧ (inflate_fixed.j3 K l_285).wp kr kp) (fun J289 hJ289 => ?_) ?_
  · refine wp_seq ?_
    refine wp_region_list ?_
    refine st1 hS (mv rfl) rfl fun a w hS => ?_
    refine wpList_nil ?_
    refine then_n ?_
    refine wp_block ?_
    refine s_loopJ (fun k262 a w => ∃ (l_257 : (List Int)) (f259 : Frag) (v261 : Int), Ss 38 [] [(2, ptr b226 0), (6, .int .i64 v261)] H [f259] F a w ∧ (l_257.length = 288) ∧ (Blk f259 b226 (l_257.flatMap (ci .i64)) 86) ∧ (inflate_fixed.l1 K k262 l_257 v261).wp kr kp) K ?_ ?_ ?_
    · exact ⟨(List.replicate 288 (0 : Int)), f227, (0 : Int), hS.to [0] (by kernel_rfl) ⟨rfl, rfl, trivial⟩, (List.length_replicate ..), hB228, hM⟩
    · intro a w hI; obtain ⟨_, _, _, _, _, _, hM⟩ := hI; exact hM
    · intro k262 a w hI J284 hJ284
      obtain ⟨l_257, f259, v261, hS, hl258, hB260, hM⟩ := hI
      rw [inflate_fixed.l1] at hM
      refine wp_seq ?_
      refine wp_region_list ?_
      refine st1 hS (bin rfl rfl rfl) rfl fun a w hS => ?_
      refine wpList_nil ?_
      refine then_n ?_
      refine wp_seq ?_
      refine s_cond hS rfl hM (fun hb263 hM => ?_) (fun hb263 hM => ?_)
      · refine wp_skip ?_
        refine then_n ?_
        refine wp_seq ?_
        refine wp_block ?_
        refine wp_seq ?_
        refine wp_region_list ?_
        refine st1 hS (mv rfl) rfl fun a w hS => ?_
        refine st1 hS (asg rfl) rfl fun a w hS => ?_
        refine wpList_nil ?_
        refine then_n ?_
        refine wp_seq ?_
        refine wp_region_list ?_
        refine st1 hS (mv rfl) rfl fun a w hS => ?_
        obtain ⟨hk264, hM⟩ := wp_chk hM
        refine st1 hS (ixB rfl rfl Tryd.runUnderlying86 Tryd.sizeOf3 hk264) rfl fun a w hS => ?_
        refine stR (xs := l_257) (g := (ci .i64)) (pre := []) (post := []) 0 ((8 : Int)) hS rfl rfl hB260 rfl (by simp) rfl (fun _ => rfl) (inb_len hl258 hk264) rfl Tryd.sizeOf3 (one_t3 _) fun zs267 w f265 hz hB266 hS => ?_
        have hl268 : zs267.length = 288 := by rw [hz, List.length_set]; exact hl258
        have hM := lt_to hz hM; clear hz
        replace hB266 : Blk f265 b226 (zs267.flatMap (ci .i64)) 86 := by simpa using hB266
        refine wpList_nil ?_
        refine then_n ?_
        refine seq_joinJ (fun a w => ∃ (l_274 : (List Int)) (f276 : Frag), Ss 38 [] [(2, ptr b226 0), (3, .int .i64 v261), (6, .int .i64 v261)] H [f276] F a w ∧ (l_274.length = 288) ∧ (Blk f276 b226 (l_274.flatMap (ci .i64)) 86) ∧ (inflate_fixed.j2 K (inflate_fixed.l1 K k262) v261 l_274).wp kr kp) (fun J278 hJ278 => ?_) ?_
        · refine wp_seq ?_
          refine wp_region_list ?_
          refine st1 hS (mv rfl) rfl fun a w hS => ?_
          refine st1 hS (bin rfl rfl rfl) rfl fun a w hS => ?_
          refine st1 hS (mv rfl) rfl fun a w hS => ?_
          refine g_op 2 true 13 (b := (decide (v261 ≥ (144 : Int)))) (r := (decide (v261 < (256 : Int)))) hS rfl rfl rfl rfl rfl rfl rfl (fun hb a w hS K hK => ?_) rfl fun a w hS => ?_
          · refine st1g hS rfl rfl rfl hb (mv rfl) rfl fun a w hS => ?_
            refine st1g hS rfl rfl rfl hb (bin rfl rfl rfl) rfl fun a w hS => ?_
            exact wpList_nil (hK _ _ (hS.up 2 rfl rfl))
          refine wpList_nil ?_
          refine then_n ?_
          refine s_cond hS rfl hM (fun hb269 hM => ?_) (fun hb269 hM => ?_)
          · refine wp_region_list ?_
            refine st1 hS (mv rfl) rfl fun a w hS => ?_
            refine st1 hS (ixB rfl rfl Tryd.runUnderlying86 Tryd.sizeOf3 hk264) rfl fun a w hS => ?_
            refine stR (xs := zs267) (g := (ci .i64)) (pre := []) (post := []) 0 ((9 : Int)) hS rfl rfl hB266 rfl (by simp) rfl (fun _ => rfl) (inb_len hl268 hk264) rfl Tryd.sizeOf3 (one_t3 _) fun zs272 w f270 hz hB271 hS => ?_
            have hl273 : zs272.length = 288 := by rw [hz, List.length_set]; exact hl268
            have hM := lt_to hz hM; clear hz
            replace hB271 : Blk f270 b226 (zs272.flatMap (ci .i64)) 86 := by simpa using hB271
            refine wpList_nil ?_
            refine then_n ?_
            exact hJ278 _ _ ⟨zs272, f270, hS.to [0] (by kernel_rfl) ⟨rfl, rfl, rfl, trivial⟩, hl273, hB271, hM⟩
          · refine wp_skip ?_
            refine then_n ?_
            exact hJ278 _ _ ⟨zs267, f265, hS.to [0] (by kernel_rfl) ⟨rfl, rfl, rfl, trivial⟩, hl268, hB266, hM⟩
        · intro a w hI
          obtain ⟨l_274, f276, hS, hl275, hB277, hM⟩ := hI
          rw [inflate_fixed.j2] at hM
          refine wp_seq ?_
          refine wp_region_list ?_
          refine st1 hS (mv rfl) rfl fun a w hS => ?_
          refine st1 hS (bin rfl rfl rfl) rfl fun a w hS => ?_
          refine st1 hS (mv rfl) rfl fun a w hS => ?_
          refine g_op 2 true 21 (b := (decide (v261 ≥ (256 : Int)))) (r := (decide (v261 < (280 : Int)))) hS rfl rfl rfl rfl rfl rfl rfl (fun hb a w hS K hK => ?_) rfl fun a w hS => ?_
          · refine st1g hS rfl rfl rfl hb (mv rfl) rfl fun a w hS => ?_
            refine st1g hS rfl rfl rfl hb (bin rfl rfl rfl) rfl fun a w hS => ?_
            exact wpList_nil (hK _ _ (hS.up 2 rfl rfl))
          refine wpList_nil ?_
          refine then_n ?_
          refine s_cond hS rfl hM (fun hb279 hM => ?_) (fun hb279 hM => ?_)
          · refine wp_region_list ?_
            refine st1 hS (mv rfl) rfl fun a w hS => ?_
            refine st1 hS (ixB rfl rfl Tryd.runUnderlying86 Tryd.sizeOf3 hk264) rfl fun a w hS => ?_
            refine stR (xs := l_274) (g := (ci .i64)) (pre := []) (post := []) 0 ((7 : Int)) hS rfl rfl hB277 rfl (by simp) rfl (fun _ => rfl) (inb_len hl275 hk264) rfl Tryd.sizeOf3 (one_t3 _) fun zs282 w f280 hz hB281 hS => ?_
            have hl283 : zs282.length = 288 := by rw [hz, List.length_set]; exact hl275
            have hM := lt_to hz hM; clear hz
            replace hB281 : Blk f280 b226 (zs282.flatMap (ci .i64)) 86 := by simpa using hB281
            refine wpList_nil ?_
            refine blk_n (then_n ?_)
            refine wp_region_list ?_
            refine st1 hS (bin rfl rfl rfl) rfl fun a w hS => ?_
            refine st1 hS (mv rfl) rfl fun a w hS => ?_
            refine wpList_nil ?_
            refine then_n ?_
            exact hJ284 _ _ ⟨zs282, f280, (w64 (v261 + (1 : Int))), hS.to [0] (by kernel_rfl) ⟨rfl, rfl, trivial⟩, hl283, hB281, hM⟩
          · refine wp_skip ?_
            refine blk_n (then_n ?_)
            refine wp_region_list ?_
            refine st1 hS (bin rfl rfl rfl) rfl fun a w hS => ?_
            refine st1 hS (mv rfl) rfl fun a w hS => ?_
            refine wpList_nil ?_
            refine then_n ?_
            exact hJ284 _ _ ⟨l_274, f276, (w64 (v261 + (1 : Int))), hS.to [0] (by kernel_rfl) ⟨rfl, rfl, trivial⟩, hl275, hB277, hM⟩
      · refine wp_exit ?_
        refine then_ex (then_ex (blk_same (then_n ?_)))
        exact hJ289 _ _ ⟨l_257, f259, hS.to [0] (by kernel_rfl) ⟨rfl, trivial⟩, hl258, hB260, hM⟩
  · intro a w hI
    obtain ⟨l_285, f287, hS, hl286, hB288, hM⟩ := hI
    rw [inflate_fixed.j3] at hM
    refine wp_seq ?_
    refine wp_region_list ?_
    refine alc ((List.replicate 32 (0 : Int)).flatMap (ci .i64)) hS Tryd.zeroValue87 rfl rfl fun w b290 f291 hB292 hS => ?_
    refine wpList_nil ?_
    refine then_n ?_
    refine seq_joinJ (fun a w => ∃ (d319 : (List Int)) (f321 : Frag), Ss 38 [] [(2, ptr b226 0), (4, ptr b290 0)] H [f287, f321] F a w ∧ (d319.length = 32) ∧ (Blk f321 b290 (d319.flatMap (ci .i64)) 87) ∧ (inflate_fixed.j5 K l_285 d319).wp kr kp) (fun J323 hJ323 => ?_) ?_
    · refine wp_seq ?_
      refine wp_region_list ?_
      refine st1 hS (mv rfl) rfl fun a w hS => ?_
      refine wpList_nil ?_
      refine then_n ?_
      refine wp_block ?_
      refine s_loopJ (fun k311 a w => ∃ (d306 : (List Int)) (f308 : Frag) (v310 : Int), Ss 38 [] [(2, ptr b226 0), (4, ptr b290 0), (28, .int .i64 v310)] H [f287, f308] F a w ∧ (d306.length = 32) ∧ (Blk f308 b290 (d306.flatMap (ci .i64)) 87) ∧ (inflate_fixed.l4 K l_285 k311 d306 v310).wp kr kp) K ?_ ?_ ?_
      · exact ⟨(List.replicate 32 (0 : Int)), f291, (0 : Int), hS.to [1, 0] (by kernel_rfl) ⟨rfl, rfl, rfl, trivial⟩, (List.length_replicate ..), hB292, hM⟩
      · intro a w hI; obtain ⟨_, _, _, _, _, _, hM⟩ := hI; exact hM
      · intro k311 a w hI J318 hJ318
        obtain ⟨d306, f308, v310, hS, hl307, hB309, hM⟩ := hI
        rw [inflate_fixed.l4] at hM
        refine wp_seq ?_
        refine wp_region_list ?_
        refine st1 hS (bin rfl rfl rfl) rfl fun a w hS => ?_
        refine wpList_nil ?_
        refine then_n ?_
        refine wp_seq ?_
        refine s_cond hS rfl hM (fun hb312 hM => ?_) (fun hb312 hM => ?_)
        · refine wp_skip ?_
          refine then_n ?_
          refine wp_seq ?_
          refine wp_block ?_
          refine wp_seq ?_
          refine wp_region_list ?_
          refine st1 hS (mv rfl) rfl fun a w hS => ?_
          refine st1 hS (asg rfl) rfl fun a w hS => ?_
          refine wpList_nil ?_
          refine then_n ?_
          refine wp_region_list ?_
          refine st1 hS (mv rfl) rfl fun a w hS => ?_
          obtain ⟨hk313, hM⟩ := wp_chk hM
          refine st1 hS (ixB rfl rfl Tryd.runUnderlying87 Tryd.sizeOf3 hk313) rfl fun a w hS => ?_
          refine stR (xs := d306) (g := (ci .i64)) (pre := []) (post := []) 1 ((5 : Int)) hS rfl rfl hB309 rfl (by simp) rfl (fun _ => rfl) (inb_len hl307 hk313) rfl Tryd.sizeOf3 (one_t3 _) fun zs316 w f314 hz hB315 hS => ?_
          have hl317 : zs316.length = 32 := by rw [hz, List.length_set]; exact hl307
          have hM := lt_to hz hM; clear hz
          replace hB315 : Blk f314 b290 (zs316.flatMap (ci .i64)) 87 := by simpa using hB315
          refine wpList_nil ?_
          refine blk_n (then_n ?_)
          refine wp_region_list ?_
          refine st1 hS (bin rfl rfl rfl) rfl fun a w hS => ?_
          refine st1 hS (mv rfl) rfl fun a w hS => ?_
          refine wpList_nil ?_
          refine then_n ?_
          exact hJ318 _ _ ⟨zs316, f314, (w64 (v310 + (1 : Int))), hS.to [0, 1] (by kernel_rfl) ⟨rfl, rfl, rfl, trivial⟩, hl317, hB315, hM⟩
        · refine wp_exit ?_
          refine then_ex (then_ex (blk_same (then_n ?_)))
          exact hJ323 _ _ ⟨d306, f308, hS.to [0, 1] (by kernel_rfl) ⟨rfl, rfl, trivial⟩, hl307, hB309, hM⟩
    · intro a w hI
      obtain ⟨d319, f321, hS, hl320, hB322, hM⟩ := hI
      rw [inflate_fixed.j5] at hM
      refine wp_seq ?_
      refine draw_begin (vals := [some (.slice (some ⟨b226, 0, none⟩) l_285.length (288)), none, some (.slice (some ⟨b290, 0, none⟩) d319.length (32)), none, none, none]) hS mixed rfl ?_
      intro l w ho hcl hA hst
      refine phase' (vals := [some (.slice (some ⟨b226, 0, none⟩) l_285.length (288)), none, some (.slice (some ⟨b290, 0, none⟩) d319.length (32)), none, none, none]) 1 [] [0, 2] rfl rfl rfl rfl (by exact ⟨nR rfl rfl rfl rfl rfl (by exact ovE (slA rfl Tryd.runUnderlying86 Tryd.sizeOf3 hl286 rfl) rfl), nR rfl rfl rfl rfl rfl (by exact ovE (slA rfl Tryd.runUnderlying87 Tryd.sizeOf3 hl320 rfl) rfl), trivial⟩) (fun D l a w ho hcl hav hpre hm hE hk hA hst => ?_) ho hcl (fun j hj => (List.not_mem_nil hj).elim) (fun m hm => (List.not_mem_nil hm).elim) List.not_mem_nil hA hst
      have hS := (Ss.mk hE hst).env2 (e' := [(34, .slice (some ⟨b226, 0, none⟩) l_285.length (288))]) ⟨rfl, trivial⟩
      refine op_of_nth rfl ?_
      refine s_call hS rfl Tryd.call38 (inflate_table_c hG K l_285 (some ⟨b226, 0, none⟩) (288) (hB288.rdF (i := 0) rfl rfl) (Nat.le_of_eq hl286) (hS.st.part 0 [0, 1] (by kernel_rfl)) (wp_bind hM) (fun A588 x589 f590 w hM h591 hst => s_back hS.ev hst.appF rfl fun hS => ?_) (fun v w hk hst => s_pan (then_pan (then_pan (⟨hS.ev.defs, hpan _ _ hk hst.appF.frame⟩)))))
      replace hS : Ss _ _ _ H [f590, f287, f321] F _ _ := hS
      refine wpList_nil (then_n ?_)
      have hcl2 := hcl.cons (k := 1) (nth_get rfl) hpre
      have hmust := must_cons (k := 1) hm (chain (k := 1) hcl (nth_get rfl) hpre [(0, 1)] [] rfl (fun _ h => absurd h List.not_mem_nil))
      replace hst := hS.st
      have hav2 := hav.cons (vals' := [some (.slice (some ⟨b226, 0, none⟩) l_285.length (288)), some (.pointer A588), some (.slice (some ⟨b290, 0, none⟩) d319.length (32)), none, none, none]) (k := 1) ⟨rfl, rfl, trivial⟩ rfl
      replace hA := (hA.next hav (subV.get (l' := [some (.slice (some ⟨b226, 0, none⟩) l_285.length (288)), some (.pointer A588), some (.slice (some ⟨b290, 0, none⟩) d319.length (32)), none, none, none]) ⟨rfl, rfl, trivial⟩)).step rfl (nth_get rfl) hk rfl rfl rfl
      clear hm hav
      replace hcl := hcl2
      refine phase' (vals := [some (.slice (some ⟨b226, 0, none⟩) l_285.length (288)), some (.pointer A588), some (.slice (some ⟨b290, 0, none⟩) d319.length (32)), none, none, none]) 3 [1, 0] [2] rfl rfl rfl rfl (by exact ⟨nR rfl rfl rfl rfl rfl (by exact ovE (slA rfl Tryd.runUnderlying87 Tryd.sizeOf3 hl320 rfl) rfl), trivial⟩) (fun D l a w ho hcl hav hpre hm hE hk hA hst => ?_) ho hcl hav2 hmust (hav2.notin rfl) hA hst
      have hS := (Ss.mk hE hst).env2 (e' := [(36, .slice (some ⟨b290, 0, none⟩) d319.length (32))]) ⟨rfl, trivial⟩
      refine op_of_nth rfl ?_
      refine s_call hS rfl Tryd.call38 (inflate_table_c hG K d319 (some ⟨b290, 0, none⟩) (32) (hB322.rdF (i := 2) rfl rfl) (Nat.le_of_eq hl320) (hS.st.part 0 [0, 1, 2] (by kernel_rfl)) (wp_bind hM) (fun A592 x593 f594 w hM h595 hst => s_back hS.ev hst.appF rfl fun hS => ?_) (fun v w hk hst => s_pan (then_pan (then_pan (⟨hS.ev.defs, hpan _ _ hk hst.appF.frame⟩)))))
      replace hS : Ss _ _ _ H [f594, f590, f287, f321] F _ _ := hS
      refine wpList_nil (then_n ?_)
      have hcl2 := hcl.cons (k := 3) (nth_get rfl) hpre
      have hmust := must_cons (k := 3) hm (chain (k := 3) hcl (nth_get rfl) hpre [(1, 3), (2, 3), (0, 1)] [] rfl (fun _ h => absurd h List.not_mem_nil))
      replace hst := hS.st
      have hav2 := hav.cons (vals' := [some (.slice (some ⟨b226, 0, none⟩) l_285.length (288)), some (.pointer A588), some (.slice (some ⟨b290, 0, none⟩) d319.length (32)), some (.pointer A592), some (.pointer A588), some (.pointer A592)]) (k := 3) ⟨rfl, rfl, rfl, trivial⟩ rfl
      replace hA := (hA.next hav (subV.get (l' := [some (.slice (some ⟨b226, 0, none⟩) l_285.length (288)), some (.pointer A588), some (.slice (some ⟨b290, 0, none⟩) d319.length (32)), some (.pointer A592), some (.pointer A588), some (.pointer A592)]) ⟨rfl, rfl, rfl, trivial⟩)).step rfl (nth_get rfl) hk rfl rfl rfl
      clear hm hav
      replace hcl := hcl2
      refine phaseE (vals := [some (.slice (some ⟨b226, 0, none⟩) l_285.length (288)), some (.pointer A588), some (.slice (some ⟨b290, 0, none⟩) d319.length (32)), some (.pointer A592), some (.pointer A588), some (.pointer A592)]) [3, 1, 2, 0, 1, 0] [4, 5] rfl rfl rfl (by exact ⟨nR rfl rfl rfl rfl rfl (by exact ovE (asg rfl) rfl), nR rfl rfl rfl rfl rfl (by exact ovE (asg rfl) rfl), trivial⟩) (fun a w hS => ?_) ho hcl hmust hA hst
      replace hS := hS.env2 (e' := [(0, .pointer A588), (1, .pointer A592)]) ⟨rfl, rfl, trivial⟩
      refine then_n ?_
      refine wp_ret ?_
      exact s_ret (rs := [0, 1]) hS rfl rfl (hret A588 x589 f590 A592 x593 f594 w hM h591 h595 (hS.st.pick [1, 0] (by kernel_rfl)))

theorem huff_Table_Next_c {H : Imm} {F : List Frag} {w : World} {R : Ending → World → Prop} {kr : (Int × Int × Int) → Prop} {kp : Value → Prop} (hG : Gl H) (K : Nat) (t684 : T_huff_Table) (r693 : T_bits_Reader) (b685 : Nat) (f686 : Frag) (A689 : Option Addr) (c690 : Nat) (f691 : Frag) (b694 : Nat) (f695 : Frag) (hB687 : Blk f686 b685 ((t684.counts_.flatMap (ci .i64)) ++ [.slice A689 t684.symbols_.length c690]) 110) (hl688 : t684.counts_.length = 16) (hV692 : Vec 3 (ci .i64) 1 A689 t684.symbols_ c690 f691) (hB696 : Blk f695 b694 ([.int .i64 r693.place_.at_, str r693.text_]) 57)
    (hS : St w H [f686, f691, f695] F) (hm : (huff_Table_Next.m K t684 r693).wp kr kp)
    (hret : ∀ (x767 : Int) (x768 : Int) (at_769 : Int) (f770 : Frag) (w : World), kr (x767, x768, at_769) → (Blk f770 b694 ([.int .i64 at_769, str r693.text_]) 57) → St w H [f770, f686, f691] F → R (.returned (.tuple ⟨[.int .i64 x767, .int .i64 x768]⟩)) w) :
    Calls Tryd.prog 48 ⟨[ptr b685 0, ptr b694 0]⟩ w R := by
  refine enter Tryd.func48 rfl Tryd.ntmps48 rfl hS fun a w hS => ?_
  have hM := hm; clear hm
  rw [huff_Table_Next.m] at hM
  refine wp_seq ?_
  refine wp_region_list ?_
  refine st1 hS (asg rfl) rfl fun a w hS => ?_
  refine st1 hS (asg rfl) rfl fun a w hS => ?_
  refine wpList_nil ?_
  refine then_n ?_
  refine wp_seq ?_
  refine wp_seq ?_
  refine wp_region_list ?_
  refine st1 hS (mv rfl) rfl fun a w hS => ?_
  refine st1 hS (eqNil rfl rfl Tryd.runUnderlying60) rfl fun a w hS => ?_
  refine st1 hS (mv rfl) rfl fun a w hS => ?_
  refine st1g hS rfl rfl rfl rfl (mv rfl) rfl fun a w hS => ?_
  refine st1g hS rfl rfl rfl rfl (eqNil rfl rfl Tryd.runUnderlying41) rfl fun a w hS => ?_
  refine st1 hS (pk rfl rfl rfl) rfl fun a w hS => ?_
  refine wpList_nil ?_
  refine then_n ?_
  refine s_condF hS rfl ?_
  refine wp_skip ?_
  refine then_n ?_
  refine wp_seq ?_
  refine wp_region_list ?_
  refine st1 hS (mv rfl) rfl fun a w hS => ?_
  refine st1 hS (nck rfl) rfl fun a w hS => ?_
  refine st1 hS (ldbA 2 rfl hB696 rfl ([.int .i64 r693.place_.at_, str r693.text_]) rfl rfl Tryd.isAgg57 Tryd.sizeOf57) rfl fun a w hS => ?_
  refine alc ([.int .i64 (0 : Int), str ([] : List UInt8)]) hS Tryd.zeroValue57 rfl rfl fun w b697 f698 hB699 hS => ?_
  refine stB 0 ([.int .i64 r693.place_.at_, str r693.text_]) ([.int .i64 r693.place_.at_, str r693.text_]) hS rfl rfl hB699 rfl rfl Tryd.sizeOf57 (by simp [Value.oneCell']) (Nat.le_of_ble_eq_true rfl) rfl fun w f700 hB701 hS => ?_
  refine wpList_nil ?_
  refine then_n ?_
  refine wp_seq ?_
  refine wp_region_list ?_
  refine st1 hS (asg rfl) rfl fun a w hS => ?_
  refine st1 hS (asg rfl) rfl fun a w hS => ?_
  refine st1 hS (asg rfl) rfl fun a w hS => ?_
  refine wpList_nil ?_
  refine then_n ?_
  refine seq_joinJ (fun a w => ∃ (at_761 : Int) (f762 : Frag), Ss 81 [] [(1, ptr b694 0), (6, ptr b697 0)] H [f762, f686, f691, f700] F a w ∧ (Blk f762 b694 ([.int .i64 at_761, str r693.text_]) 57) ∧ (huff_Table_Next.j2 K r693 at_761).wp kr kp) (fun J764 hJ764 => ?_) ?_
  · refine wp_seq ?_
    refine wp_region_list ?_
    refine st1 hS (asg rfl) rfl fun a w hS => ?_
    refine wpList_nil ?_
    refine then_n ?_
    refine wp_block ?_
    refine s_loopJ (fun k740 a w => ∃ (at_733 : Int) (f734 : Frag) (code736 : Int) (first737 : Int) (passed738 : Int) (n_739 : Int), Ss 81 [] [(0, ptr b685 0), (1, ptr b694 0), (6, ptr b697 0), (7, .int .i64 code736), (8, .int .i64 first737), (9, .int .i64 passed738), (10, .int .i64 n_739)] H [f734, f686, f691, f700] F a w ∧ (Blk f734 b694 ([.int .i64 at_733, str r693.text_]) 57) ∧ (huff_Table_Next.l1 K t684 r693 k740 at_733 code736 first737 passed738 n_739).wp kr kp) K ?_ ?_ ?_
    · exact ⟨r693.place_.at_, f695, (0 : Int), (0 : Int), (0 : Int), (1 : Int), hS.to [3, 1, 2, 0] (by kernel_rfl) ⟨rfl, rfl, rfl, rfl, rfl, rfl, rfl, trivial⟩, hB696, hM⟩
    · intro a w hI; obtain ⟨_, _, _, _, _, _, _, _, hM⟩ := hI; exact hM
    · intro k740 a w hI J760 hJ760
      obtain ⟨at_733, f734, code736, first737, passed738, n_739, hS, hB735, hM⟩ := hI
      rw [huff_Table_Next.l1] at hM
      refine wp_seq ?_
      refine wp_seq ?_
      refine wp_region_list ?_
      refine st1 hS (mv rfl) rfl fun a w hS => ?_
      refine st1 hS (mv rfl) rfl fun a w hS => ?_
      refine st1 hS (nck rfl) rfl fun a w hS => ?_
      refine st1 hS (fad rfl Tryd.runUnderlying110 rfl Tryd.sizeOf67 rfl) rfl fun a w hS => ?_
      refine st1 hS (ldP 1 rfl hB687 rfl (by rfl) (flat_ln (g := (ci .i64)) (sz := 1) (fun _ => rfl) hl688) Tryd.isAgg67) rfl fun a w hS => ?_
      refine st1 hS (lenV rfl Tryd.runUnderlying67) rfl fun a w hS => ?_
      refine st1 hS (bin rfl rfl rfl) rfl fun a w hS => ?_
      refine wpList_nil ?_
      refine then_n ?_
      refine s_cond hS rfl hM (fun hb741 hM => ?_) (fun hb741 hM => ?_)
      · refine wp_skip ?_
        refine then_n ?_
        refine wp_seq ?_
        refine wp_block ?_
        refine wp_seq ?_
        refine wp_region_list ?_
        refine st1 hS (mv rfl) rfl fun a w hS => ?_
        refine s_call hS rfl Tryd.call33 (bits_Reader_Bits_c hG K (T_bits_Reader.mk (T_bits_place.mk at_733) r693.text_) (1 : Int) b694 f734 hB735 (hS.st.part 1 [0, 1, 2, 3] (by kernel_rfl)) (wp_bind hM) (fun x742 x743 at_744 f745 w hM h746 hst => s_back hS.ev hst.appF rfl fun hS => ?_))
        replace hS : Ss _ _ _ H [f745, f686, f691, f700] F _ _ := hS
        refine st1 hS (mv rfl) rfl fun a w hS => ?_
        refine st1 hS (ex rfl rfl) rfl fun a w hS => ?_
        refine st1 hS (ex rfl rfl) rfl fun a w hS => ?_
        refine st1 hS (asg rfl) rfl fun a w hS => ?_
        refine st1 hS (asg rfl) rfl fun a w hS => ?_
        refine wpList_nil ?_
        refine then_n ?_
        refine wp_seq ?_
        refine wp_seq ?_
        refine wp_region_list ?_
        refine st1 hS (mv rfl) rfl fun a w hS => ?_
        refine st1 hS (bin rfl rfl rfl) rfl fun a w hS => ?_
        refine wpList_nil ?_
        refine then_n ?_
        refine s_cond hS rfl hM (fun hb747 hM => ?_) (fun hb747 hM => ?_)
        · refine wp_seq ?_
          refine wp_region_list ?_
          refine st1 hS (mv rfl) rfl fun a w hS => ?_
          refine st1 hS (ldbA 3 rfl hB701 rfl ([.int .i64 r693.place_.at_, str r693.text_]) rfl rfl Tryd.isAgg57 Tryd.sizeOf57) rfl fun a w hS => ?_
          refine st1 hS (nck rfl) rfl fun a w hS => ?_
          refine stB 0 ([.int .i64 r693.place_.at_, str r693.text_]) ([.int .i64 r693.place_.at_, str r693.text_]) hS rfl rfl h746 rfl rfl Tryd.sizeOf57 (by simp [Value.oneCell']) (Nat.le_of_ble_eq_true rfl) rfl fun w f748 hB749 hS => ?_
          refine wpList_nil ?_
          refine then_n ?_
          refine wp_seq ?_
          refine wp_region_list ?_
          refine st1 hS (mv rfl) rfl fun a w hS => ?_
          refine st1 hS (asg rfl) rfl fun a w hS => ?_
          refine st1 hS (asg rfl) rfl fun a w hS => ?_
          refine wpList_nil ?_
          refine then_n ?_
          refine wp_ret ?_
          refine then_ret (blk_ret (then_ret (then_ret (blk_ret (then_ret ?_)))))
          exact s_ret (rs := [4, 5]) hS rfl rfl (hret (0 : Int) x743 r693.place_.at_ f748 w hM hB749 (hS.st.pick [0, 1, 2] (by kernel_rfl)))
        · refine wp_skip ?_
          refine then_n ?_
          refine wp_seq ?_
          refine wp_region_list ?_
          refine st1 hS (mv rfl) rfl fun a w hS => ?_
          refine st1 hS (shl rfl rfl rfl) rfl fun a w hS => ?_
          refine st1 hS (mv rfl) rfl fun a w hS => ?_
          refine st1 hS (cvi rfl Tryd.runUnderlying33 Tryd.runUnderlying3) rfl fun a w hS => ?_
          refine st1 hS (bin rfl rfl rfl) rfl fun a w hS => ?_
          refine st1x (v := Value.int .i64) hS (asg rfl) rfl fun code750 a w hz hS => ?_
          have hM := lt_to hz hM; clear hz
          refine wpList_nil ?_
          refine then_n ?_
          refine wp_seq ?_
          refine wp_region_list ?_
          refine st1 hS (mv rfl) rfl fun a w hS => ?_
          refine st1 hS (shl rfl rfl rfl) rfl fun a w hS => ?_
          refine st1x (v := Value.int .i64) hS (asg rfl) rfl fun first751 a w hz hS => ?_
          have hM := lt_to hz hM; clear hz
          refine wpList_nil ?_
          refine then_n ?_
          refine wp_seq ?_
          refine wp_region_list ?_
          refine st1 hS (mv rfl) rfl fun a w hS => ?_
          refine st1 hS (mv rfl) rfl fun a w hS => ?_
          refine st1 hS (nck rfl) rfl fun a w hS => ?_
          refine st1 hS (fad rfl Tryd.runUnderlying110 rfl Tryd.sizeOf108 rfl) rfl fun a w hS => ?_
          obtain ⟨hk752, hM⟩ := wp_chk hM
          refine st1 hS (ixB rfl rfl Tryd.runUnderlying108 Tryd.sizeOf3 hk752) rfl fun a w hS => ?_
          refine st1 hS (ldR (xs := t684.counts_) (g := (ci .i64)) (pre := []) (post := [.slice A689 t684.symbols_.length c690]) 1 rfl hB687 rfl (by simp) rfl (fun _ => rfl) (inb_len hl688 hk752) rfl Tryd.isAgg3) rfl fun a w hS => ?_
          refine st1x (v := Value.int .i64) hS (asg rfl) rfl fun k_753 a w hz hS => ?_
          have hM := lt_to hz hM; clear hz
          refine wpList_nil ?_
          refine then_n ?_
          refine wp_seq ?_
          refine wp_seq ?_
          refine wp_region_list ?_
          refine st1 hS (mv rfl) rfl fun a w hS => ?_
          refine st1 hS (mv rfl) rfl fun a w hS => ?_
          refine st1 hS (bin rfl rfl rfl) rfl fun a w hS => ?_
          refine st1 hS (mv rfl) rfl fun a w hS => ?_
          refine st1 hS (bin rfl rfl rfl) rfl fun a w hS => ?_
          refine wpList_nil ?_
          refine then_n ?_
          refine s_cond hS rfl hM (fun hb754 hM => ?_) (fun hb754 hM => ?_)
          · refine wp_seq ?_
            refine wp_region_list ?_
            refine st1 hS (mv rfl) rfl fun a w hS => ?_
            refine st1 hS (nck rfl) rfl fun a w hS => ?_
            refine st1 hS (fad rfl Tryd.runUnderlying110 rfl Tryd.sizeOf67 rfl) rfl fun a w hS => ?_
            refine st1 hS (ldP 1 rfl hB687 rfl (by rfl) (flat_ln (g := (ci .i64)) (sz := 1) (fun _ => rfl) hl688) Tryd.isAgg67) rfl fun a w hS => ?_
            refine st1 hS (mv rfl) rfl fun a w hS => ?_
            refine st1 hS (mv rfl) rfl fun a w hS => ?_
            refine st1 hS (bin rfl rfl rfl) rfl fun a w hS => ?_
            refine st1 hS (mv rfl) rfl fun a w hS => ?_
            refine st1 hS (bin rfl rfl rfl) rfl fun a w hS => ?_
            obtain ⟨hk755, hM⟩ := wp_chk hM
            refine st1 hS (ixV rfl rfl Tryd.runUnderlying67 Tryd.sizeOf3 (hV692.rd (i := 2) rfl) (fun _ => rfl) rfl hk755) rfl fun a w hS => ?_
            refine st1 hS (ldV0 rfl (hV692.rd (i := 2) rfl) (fun _ => rfl) hk755 rfl Tryd.isAgg3) rfl fun a w hS => ?_
            refine st1x (v := Value.int .i64) hS (asg rfl) rfl fun v756 a w hz hS => ?_
            have hM := lt_to hz hM; clear hz
            refine st1 hS (asg rfl) rfl fun a w hS => ?_
            refine wpList_nil ?_
            refine then_n ?_
            refine wp_ret ?_
            refine then_ret (blk_ret (then_ret (then_ret (blk_ret (then_ret ?_)))))
            exact s_ret (rs := [4, 5]) hS rfl rfl (hret v756 (0 : Int) at_744 f745 w hM h746 (hS.st.pick [0, 1, 2] (by kernel_rfl)))
          · refine wp_skip ?_
            refine then_n ?_
            refine wp_seq ?_
            refine wp_region_list ?_
            refine st1 hS (mv rfl) rfl fun a w hS => ?_
            refine st1 hS (mv rfl) rfl fun a w hS => ?_
            refine st1 hS (bin rfl rfl rfl) rfl fun a w hS => ?_
            refine st1x (v := Value.int .i64) hS (asg rfl) rfl fun first757 a w hz hS => ?_
            have hM := lt_to hz hM; clear hz
            refine wpList_nil ?_
            refine then_n ?_
            refine wp_region_list ?_
            refine st1 hS (mv rfl) rfl fun a w hS => ?_
            refine st1 hS (mv rfl) rfl fun a w hS => ?_
            refine st1 hS (bin rfl rfl rfl) rfl fun a w hS => ?_
            refine st1x (v := Value.int .i64) hS (asg rfl) rfl fun passed758 a w hz hS => ?_
            have hM := lt_to hz hM; clear hz
            refine wpList_nil ?_
            refine blk_n (then_n ?_)
            refine wp_region_list ?_
            refine st1 hS (mv rfl) rfl fun a w hS => ?_
            refine st1 hS (bin rfl rfl rfl) rfl fun a w hS => ?_
            refine st1x (v := Value.int .i64) hS (asg rfl) rfl fun n_759 a w hz hS => ?_
            have hM := lt_to hz hM; clear hz
            refine wpList_nil ?_
            refine then_n ?_
            exact hJ760 _ _ ⟨at_744, f745, code750, first757, passed758, n_759, hS.to [0, 1, 2, 3] (by kernel_rfl) ⟨rfl, rfl, rfl, rfl, rfl, rfl, rfl, trivial⟩, h746, hM⟩
      · refine wp_exit ?_
        refine then_ex (then_ex (blk_same (then_n ?_)))
        exact hJ764 _ _ ⟨at_733, f734, hS.to [0, 1, 2, 3] (by kernel_rfl) ⟨rfl, rfl, trivial⟩, hB735, hM⟩
  · intro a w hI
    obtain ⟨at_761, f762, hS, hB763, hM⟩ := hI
    rw [huff_Table_Next.j2] at hM
    refine wp_seq ?_
    refine wp_region_list ?_
    refine st1 hS (mv rfl) rfl fun a w hS => ?_
    refine st1 hS (ldbA 3 rfl hB701 rfl ([.int .i64 r693.place_.at_, str r693.text_]) rfl rfl Tryd.isAgg57 Tryd.sizeOf57) rfl fun a w hS => ?_
    refine st1 hS (nck rfl) rfl fun a w hS => ?_
    refine stB 0 ([.int .i64 r693.place_.at_, str r693.text_]) ([.int .i64 r693.place_.at_, str r693.text_]) hS rfl rfl hB763 rfl rfl Tryd.sizeOf57 (by simp [Value.oneCell']) (Nat.le_of_ble_eq_true rfl) rfl fun w f765 hB766 hS => ?_
    refine wpList_nil ?_
    refine then_n ?_
    refine wp_seq ?_
    refine wp_region_list ?_
    refine st1 hS (asg rfl) rfl fun a w hS => ?_
    refine st1 hS (asg rfl) rfl fun a w hS => ?_
    refine wpList_nil ?_
    refine then_n ?_
    refine wp_ret ?_
    exact s_ret (rs := [4, 5]) hS rfl rfl (hret (0 : Int) (3 : Int) r693.place_.at_ f765 w hM hB766 (hS.st.pick [0, 1, 2] (by kernel_rfl)))

theorem inflate_reader_symbol_c {H : Imm} {F : List Frag} {w : World} {R : Ending → World → Prop} {kr : (Int × Int) → Prop} {kp : Value → Prop} (hG : Gl H) (K : Nat) (r664 : T_inflate_reader) (t675 : T_huff_Table) (b665 : Nat) (f666 : Frag) (b668 : Nat) (f669 : Frag) (A671 : Option Addr) (c672 : Nat) (f673 : Frag) (b676 : Nat) (f677 : Frag) (A680 : Option Addr) (c681 : Nat) (f682 : Frag) (hB667 : Blk f666 b665 ([ptr b668 0, .slice A671 r664.out_.length c672, .int .i64 r664.limit_]) 44) (hB670 : Blk f669 b668 ([.int .i64 r664.Reader_.place_.at_, str r664.Reader_.text_]) 57) (hV674 : Vec 5 (ci .u8) 1 A671 r664.out_ c672 f673) (hB678 : Blk f677 b676 ((t675.counts_.flatMap (ci .i64)) ++ [.slice A680 t675.symbols_.length c681]) 110) (hl679 : t675.counts_.length = 16) (hV683 : Vec 3 (ci .i64) 1 A680 t675.symbols_ c681 f682)
    (hS : St w H [f666, f669, f673, f677, f682] F) (hm : (inflate_reader_symbol.m K r664 t675).wp kr kp)
    (hret : ∀ (x777 : Int) (at_778 : Int) (f779 : Frag) (w : World), kr (x777, at_778) → (Blk f779 b668 ([.int .i64 at_778, str r664.Reader_.text_]) 57) → St w H [f677, f682, f666, f779, f673] F → R (.returned (.int .i64 x777)) w)
    (hpan : ∀ v w, kp v → St w H [] F → R (.panicked [⟨v, false, false⟩]) w) :
    Calls Tryd.prog 36 ⟨[ptr b665 0, ptr b676 0]⟩ w R := by
  refine enter Tryd.func36 rfl Tryd.ntmps36 rfl hS fun a w hS => ?_
  have hM := hm; clear hm
  rw [inflate_reader_symbol.m] at hM
  refine wp_seq ?_
  refine wp_region_list ?_
  refine st1 hS (asg rfl) rfl fun a w hS => ?_
  refine wpList_nil ?_
  refine then_n ?_
  refine wp_seq ?_
  refine wp_region_list ?_
  refine st1 hS (mv rfl) rfl fun a w hS => ?_
  refine st1 hS (mv rfl) rfl fun a w hS => ?_
  refine st1 hS (nck rfl) rfl fun a w hS => ?_
  refine st1 hS (fad rfl Tryd.runUnderlying44 rfl Tryd.sizeOf41 rfl) rfl fun a w hS => ?_
  refine st1 hS (ldb 0 rfl hB667 rfl rfl Tryd.isAgg41) rfl fun a w hS => ?_
  refine s_call hS rfl Tryd.call48 (huff_Table_Next_c hG K t675 r664.Reader_ b676 f677 A680 c681 f682 b668 f669 hB678 hl679 hV683 hB670 (hS.st.part 3 [3, 4, 1, 0, 2] (by kernel_rfl)) (wp_bind hM) (fun x772 x773 at_774 f775 w hM h776 hst => s_back hS.ev hst.appF rfl fun hS => ?_))
  replace hS : Ss _ _ _ H [f775, f677, f682, f666, f673] F _ _ := hS
  refine st1 hS (mv rfl) rfl fun a w hS => ?_
  refine st1 hS (ex rfl rfl) rfl fun a w hS => ?_
  refine st1 hS (ex rfl rfl) rfl fun a w hS => ?_
  refine st1 hS (asg rfl) rfl fun a w hS => ?_
  refine st1 hS (asg rfl) rfl fun a w hS => ?_
  refine wpList_nil ?_
  refine then_n ?_
  refine wp_seq ?_
  refine wp_region_list ?_
  refine st1 hS (mv rfl) rfl fun a w hS => ?_
  refine s_call hS rfl Tryd.call34 (inflate_must_c hG K x773 (hS.st.part 0 [0, 1, 2, 3, 4] (by kernel_rfl)) (wp_bind hM) (fun  w hM  hst => s_back hS.ev hst.appF rfl fun hS => ?_) (fun v w hk hst => s_pan (then_pan (⟨hS.ev.defs, hpan _ _ hk hst.appF.frame⟩))))
  replace hS : Ss _ _ _ H [f775, f677, f682, f666, f673] F _ _ := hS
  refine wpList_nil ?_
  refine then_n ?_
  refine wp_seq ?_
  refine wp_region_list ?_
  refine st1 hS (mv rfl) rfl fun a w hS => ?_
  refine st1 hS (asg rfl) rfl fun a w hS => ?_
  refine wpList_nil ?_
  refine then_n ?_
  refine wp_ret ?_
  exact s_ret (rs := [4]) hS rfl rfl (hret x772 at_774 f775 w hM h776 (hS.st.pick [1, 2, 3, 0, 4] (by kernel_rfl)))

theorem inflate_reader_far_c {H : Imm} {F : List Frag} {w : World} {R : Ending → World → Prop} {kr : (Int × Int) → Prop} {kp : Value → Prop} (hG : Gl H) (K : Nat) (r802 : T_inflate_reader) (x813 : T_inflate_run) (b803 : Nat) (f804 : Frag) (b806 : Nat) (f807 : Frag) (A809 : Option Addr) (c810 : Nat) (f811 : Frag) (hB805 : Blk f804 b803 ([ptr b806 0, .slice A809 r802.out_.length c810, .int .i64 r802.limit_]) 44) (hB808 : Blk f807 b806 ([.int .i64 r802.Reader_.place_.at_, str r802.Reader_.text_]) 57) (hV812 : Vec 5 (ci .u8) 1 A809 r802.out_ c810 f811)
    (hS : St w H [f804, f807, f811] F) (hm : (inflate_reader_far.m K r802 x813).wp kr kp)
    (hret : ∀ (x823 : Int) (at_824 : Int) (f825 : Frag) (w : World), kr (x823, at_824) → (Blk f825 b806 ([.int .i64 at_824, str r802.Reader_.text_]) 57) → St w H [f804, f825, f811] F → R (.returned (.int .i64 x823)) w)
    (hpan : ∀ v w, kp v → St w H [] F → R (.panicked [⟨v, false, false⟩]) w) :
    Calls Tryd.prog 37 ⟨[ptr b803 0, .agg ⟨[.int .i64 x813.from_, .int .i64 x813.bits_]⟩]⟩ w R := by
  refine enter Tryd.func37 rfl Tryd.ntmps37 rfl hS fun a w hS => ?_
  have hM := hm; clear hm
  rw [inflate_reader_far.m] at hM
  refine wp_seq ?_
  refine wp_region_list ?_
  refine bx ([.int .i64 x813.from_, .int .i64 x813.bits_]) hS rfl rfl rfl fun w b814 f815 hB816 hS => ?_
  refine st1 hS (asg rfl) rfl fun a w hS => ?_
  refine wpList_nil ?_
  refine then_n ?_
  refine wp_seq ?_
  refine draw_begin (vals := [some (ptr b814 0), some (.int .i64 x813.from_), some (ptr b803 0), some (ptr b814 1), some (.int .i64 x813.bits_), none, none, none]) hS mixed rfl ?_
  intro l w ho hcl hA hst
  refine phase' (vals := [some (ptr b814 0), some (.int .i64 x813.from_), some (ptr b803 0), some (ptr b814 1), some (.int .i64 x813.bits_), none, none, none]) 5 [] [0, 1, 2, 3, 4] rfl rfl rfl rfl (by exact ⟨nR rfl rfl rfl rfl rfl (by exact ovE (fad rfl Tryd.runUnderlying83 rfl Tryd.sizeOf3 rfl) rfl), nR rfl rfl rfl rfl rfl (by exact ovE (ldb 0 rfl hB816 rfl rfl Tryd.isAgg3) rfl), nR rfl rfl rfl rfl rfl (by exact ovE (mv rfl) rfl), nR rfl rfl rfl rfl rfl (by exact ovE (fad rfl Tryd.runUnderlying83 rfl Tryd.sizeOf3 rfl) rfl), nR rfl rfl rfl rfl rfl (by exact ovE (ldb 0 rfl hB816 rfl rfl Tryd.isAgg3) rfl), trivial⟩) (fun D l a w ho hcl hav hpre hm hE hk hA hst => ?_) ho hcl (fun j hj => (List.not_mem_nil hj).elim) (fun m hm => (List.not_mem_nil hm).elim) List.not_mem_nil hA hst
  have hS := (Ss.mk hE hst).env2 (e' := [(7, ptr b803 0), (9, .int .i64 x813.bits_)]) ⟨rfl, rfl, trivial⟩
  refine op_of_nth rfl ?_
  refine s_call hS rfl Tryd.call21 (inflate_reader_number_c hG K r802 x813.bits_ b803 f804 b806 f807 A809 c810 f811 hB805 hB808 hV812 (hS.st.part 3 [1, 2, 3, 0] (by kernel_rfl)) (wp_bind hM) (fun x817 at_818 f819 w hM h820 hst => s_back hS.ev hst.appF rfl fun hS => ?_) (fun v w hk hst => s_pan (then_pan (then_pan (⟨hS.ev.defs, hpan _ _ hk hst.appF.frame⟩)))))
  replace hS : Ss _ _ _ H [f804, f819, f811, f815] F _ _ := hS
  refine wpList_nil (then_n ?_)
  have hcl2 := hcl.cons (k := 5) (nth_get rfl) hpre
  have hmust := must_cons (k := 5) hm (chain (k := 5) hcl (nth_get rfl) hpre [(2, 5), (4, 5), (3, 4)] [] rfl (fun _ h => absurd h List.not_mem_nil))
  replace hst := hS.st
  obtain ⟨v821, hz822⟩ : ∃ x, x = (w64 (x813.from_ + x817)) := ⟨_, rfl⟩
  replace hM := lt_to hz822 hM
  have hav2 := hav.cons (vals' := [some (ptr b814 0), some (.int .i64 x813.from_), some (ptr b803 0), some (ptr b814 1), some (.int .i64 x813.bits_), some (.int .i64 x817), some (.int .i64 (w64 (x813.from_ + x817))), some (.int .i64 v821)]) (k := 5) ⟨rfl, rfl, rfl, rfl, rfl, trivial⟩ rfl
  replace hA := (hA.next hav (subV.get (l' := [some (ptr b814 0), some (.int .i64 x813.from_), some (ptr b803 0), some (ptr b814 1), some (.int .i64 x813.bits_), some (.int .i64 x817), some (.int .i64 (w64 (x813.from_ + x817))), some (.int .i64 v821)]) ⟨rfl, rfl, rfl, rfl, rfl, trivial⟩)).step rfl (nth_get rfl) hk rfl rfl rfl
  clear hm hav
  replace hcl := hcl2
  refine phaseE (vals := [some (ptr b814 0), some (.int .i64 x813.from_), some (ptr b803 0), some (ptr b814 1), some (.int .i64 x813.bits_), some (.int .i64 x817), some (.int .i64 (w64 (x813.from_ + x817))), some (.int .i64 v821)]) [5, 2, 4, 3] [0, 1, 6, 7] rfl rfl rfl (by exact ⟨nR rfl rfl rfl rfl rfl (by exact ovE (fad rfl Tryd.runUnderlying83 rfl Tryd.sizeOf3 rfl) rfl), nR rfl rfl rfl rfl rfl (by exact ovE (ldb 3 rfl hB816 rfl rfl Tryd.isAgg3) rfl), nR rfl rfl rfl rfl rfl (by exact ovE (bin rfl rfl rfl) rfl), nR rfl rfl rfl rfl rfl (by exact ovE (asg rfl) (congrArg (Value.int .i64) hz822.symm)), trivial⟩) (fun a w hS => ?_) ho hcl hmust hA hst
  replace hS := hS.env2 (e' := [(4, .int .i64 v821)]) ⟨rfl, trivial⟩
  refine then_n ?_
  refine wp_ret ?_
  exact s_ret (rs := [4]) hS rfl rfl (hret v821 at_818 f819 w hM h820 (hS.st.pick [0, 1, 2] (by kernel_rfl)))

theorem inflate_reader_symbols_c {H : Imm} {F : List Frag} {w : World} {R : Ending → World → Prop} {kr : (Int × (List Int)) → Prop} {kp : Value → Prop} (hG : Gl H) (K : Nat) (r634 : T_inflate_reader) (literals645 : T_huff_Table) (back654 : T_huff_Table) (b635 : Nat) (f636 : Frag) (b638 : Nat) (f639 : Frag) (A641 : Option Addr) (c642 : Nat) (f643 : Frag) (b646 : Nat) (f647 : Frag) (A650 : Option Addr) (c651 : Nat) (f652 : Frag) (b655 : Nat) (f656 : Frag) (A659 : Option Addr) (c660 : Nat) (f661 : Frag) (hB637 : Blk f636 b635 ([ptr b638 0, .slice A641 r634.out_.length c642, .int .i64 r634.limit_]) 44) (hB640 : Blk f639 b638 ([.int .i64 r634.Reader_.place_.at_, str r634.Reader_.text_]) 57) (hV644 : Vec 5 (ci .u8) 1 A641 r634.out_ c642 f643) (hB648 : Blk f647 b646 ((literals645.counts_.flatMap (ci .i64)) ++ [.slice A650 literals645.symbols_.length c651]) 110) (hl649 : literals645.counts_.length = 16) (hV653 : Vec 3 (ci .i64) 1 A650 literals645.symbols_ c651 f652) (hB657 : Blk f656 b655 ((back654.counts_.flatMap (ci .i64)) ++ [.slice A659 back654.symbols_.length c660]) 110) (hl658 : back654.counts_.length = 16) (hV662 : Vec 3 (ci .i64) 1 A659 back654.symbols_ c660 f661)
    (hS : St w H [f636, f639, f643, f647, f652, f656, f661] F) (hm : (inflate_reader_symbols.m K r634 literals645 back654).wp kr kp)
    (hret : ∀ (at_996 : Int) (f997 : Frag) (A999 : Option Addr) (c1000 : Nat) (out1001 : (List Int)) (f1002 : Frag) (f1004 : Frag) (w : World), kr (at_996, out1001) → (Blk f997 b638 ([.int .i64 at_996, str r634.Reader_.text_]) 57) → (Vec 5 (ci .u8) 1 A999 out1001 c1000 f1002) → (Blk f1004 b635 ([ptr b638 0, .slice A999 out1001.length c1000, .int .i64 r634.limit_]) 44) → St w H [f656, f661, f647, f652, f1004, f997, f1002] F → R (.returned (.tuple ⟨[]⟩)) w)
    (hpan : ∀ v w, kp v → St w H [] F → R (.panicked [⟨v, false, false⟩]) w) :
    Calls Tryd.prog 23 ⟨[ptr b635 0, ptr b646 0, ptr b655 0]⟩ w R := by
  refine enter Tryd.func23 rfl Tryd.ntmps23 rfl hS fun a w hS => ?_
  have hM := hm; clear hm
  rw [inflate_reader_symbols.m] at hM
  refine wp_block ?_
  refine s_loopJ (fun k910 a w => ∃ (at_900 : Int) (f901 : Frag) (A903 : Option Addr) (c904 : Nat) (out905 : (List Int)) (f906 : Frag) (f908 : Frag), Ss 108 [] [(0, ptr b635 0), (1, ptr b646 0), (2, ptr b655 0)] H [f656, f661, f647, f652, f908, f901, f906] F a w ∧ (Blk f901 b638 ([.int .i64 at_900, str r634.Reader_.text_]) 57) ∧ (Vec 5 (ci .u8) 1 A903 out905 c904 f906) ∧ (Blk f908 b635 ([ptr b638 0, .slice A903 out905.length c904, .int .i64 r634.limit_]) 44) ∧ (inflate_reader_symbols.l1 K r634 literals645 back654 k910 at_900 out905).wp kr kp) K ?_ ?_ ?_
  · exact ⟨r634.Reader_.place_.at_, f639, A641, c642, r634.out_, f643, f636, hS.to [5, 6, 3, 4, 0, 1, 2] (by kernel_rfl) ⟨rfl, rfl, rfl, trivial⟩, hB640, hV644, hB637, hM⟩
  · intro a w hI; obtain ⟨_, _, _, _, _, _, _, _, _, _, _, hM⟩ := hI; exact hM
  · intro k910 a w hI J995 hJ995
    obtain ⟨at_900, f901, A903, c904, out905, f906, f908, hS, hB902, hV907, hB909, hM⟩ := hI
    rw [inflate_reader_symbols.l1] at hM
    refine wp_block ?_
    refine wp_seq ?_
    refine wp_region_list ?_
    refine st1 hS (mv rfl) rfl fun a w hS => ?_
    refine st1 hS (mv rfl) rfl fun a w hS => ?_
    refine s_call hS rfl Tryd.call36 (inflate_reader_symbol_c hG K (T_inflate_reader.mk (T_bits_Reader.mk (T_bits_place.mk at_900) r634.Reader_.text_) out905 r634.limit_) literals645 b635 f908 b638 f901 A903 c904 f906 b646 f647 A650 c651 f652 hB909 hB902 hV907 hB648 hl649 hV653 (hS.st.part 5 [4, 5, 6, 2, 3, 0, 1] (by kernel_rfl)) (wp_bind hM) (fun x911 at_912 f913 w hM h914 hst => s_back hS.ev hst.appF rfl fun hS => ?_) (fun v w hk hst => s_pan (then_pan (blk_pan (then_pan (blk_pan (⟨hS.ev.defs, hpan _ _ hk hst.appF.frame⟩)))))))
    replace hS : Ss _ _ _ H [f647, f652, f908, f913, f906, f656, f661] F _ _ := hS
    refine st1 hS (asg rfl) rfl fun a w hS => ?_
    refine wpList_nil ?_
    refine then_n ?_
    refine wp_seq ?_
    refine wp_block ?_
    refine wp_seq ?_
    refine wp_region_list ?_
    refine st1 hS (mv rfl) rfl fun a w hS => ?_
    refine st1 hS (bin rfl rfl rfl) rfl fun a w hS => ?_
    refine st1x (v := Value.bool) hS (asg rfl) rfl fun v915 a w hz hS => ?_
    have hM := lt_to hz hM; clear hz
    refine wpList_nil ?_
    refine then_n ?_
    refine s_cond hS rfl hM (fun hb916 hM => ?_) (fun hb916 hM => ?_)
    · refine wp_ret ?_
      refine blk_ret (then_ret (blk_ret (then_ret (blk_ret ?_))))
      exact s_ret (rs := []) hS rfl rfl (hret at_912 f913 A903 c904 out905 f906 f908 w hM h914 hV907 hB909 (hS.st.pick [5, 6, 0, 1, 2, 3, 4] (by kernel_rfl)))
    · refine wp_seq ?_
      refine wp_region_list ?_
      refine st1 hS (mv rfl) rfl fun a w hS => ?_
      refine st1 hS (bin rfl rfl rfl) rfl fun a w hS => ?_
      refine st1x (v := Value.bool) hS (asg rfl) rfl fun v917 a w hz hS => ?_
      have hM := lt_to hz hM; clear hz
      refine wpList_nil ?_
      refine then_n ?_
      refine s_cond hS rfl hM (fun hb918 hM => ?_) (fun hb918 hM => ?_)
      · refine wp_seq ?_
        refine draw_begin (vals := [some (ptr b635 0), some (ptr b635 0), some (ptr b635 1), some (.slice A903 out905.length c904), some (.int .i64 (out905.length : Int)), some (ptr b635 0), some (ptr b635 0), some (ptr b635 2), some (.int .i64 r634.limit_), some (.bool ((out905.length : Int) == r634.limit_)), none]) hS mixed rfl ?_
        intro l w ho hcl hA hst
        refine phase' (vals := [some (ptr b635 0), some (ptr b635 0), some (ptr b635 1), some (.slice A903 out905.length c904), some (.int .i64 (out905.length : Int)), some (ptr b635 0), some (ptr b635 0), some (ptr b635 2), some (.int .i64 r634.limit_), some (.bool ((out905.length : Int) == r634.limit_)), none]) 10 [] [0, 1, 2, 3, 4, 5, 6, 7, 8, 9] rfl rfl rfl rfl (by exact ⟨nR rfl rfl rfl rfl rfl (by exact ovE (mv rfl) rfl), nR rfl rfl rfl rfl rfl (by exact ovE (nck rfl) rfl), nR rfl rfl rfl rfl rfl (by exact ovE (fad rfl Tryd.runUnderlying44 rfl Tryd.sizeOf30 rfl) rfl), nR rfl rfl rfl rfl rfl (by exact ovE (ldb 2 rfl hB909 rfl rfl Tryd.isAgg30) rfl), nR rfl rfl rfl rfl rfl (by exact ovE (lenV rfl Tryd.runUnderlying30) rfl), nR rfl rfl rfl rfl rfl (by exact ovE (mv rfl) rfl), nR rfl rfl rfl rfl rfl (by exact ovE (nck rfl) rfl), nR rfl rfl rfl rfl rfl (by exact ovE (fad rfl Tryd.runUnderlying44 rfl Tryd.sizeOf3 rfl) rfl), nR rfl rfl rfl rfl rfl (by exact ovE (ldb 2 rfl hB909 rfl rfl Tryd.isAgg3) rfl), nR rfl rfl rfl rfl rfl (by exact ovE (bin rfl rfl rfl) rfl), trivial⟩) (fun D l a w ho hcl hav hpre hm hE hk hA hst => ?_) ho hcl (fun j hj => (List.not_mem_nil hj).elim) (fun m hm => (List.not_mem_nil hm).elim) List.not_mem_nil hA hst
        have hS := (Ss.mk hE hst).env2 (e' := [(28, .bool ((out905.length : Int) == r634.limit_))]) ⟨rfl, trivial⟩
        refine op_of_nth rfl ?_
        refine s_call hS rfl Tryd.call26 (inflate_refuse_c hG K ((out905.length : Int) == r634.limit_) (11 : Int) (hS.st.part 0 [0, 1, 2, 3, 4, 5, 6] (by kernel_rfl)) (wp_bind hM) (fun  w hM  hst => s_back hS.ev hst.appF rfl fun hS => ?_) (fun v w hk hst => s_pan (then_pan (then_pan (blk_pan (then_pan (blk_pan (then_pan (blk_pan (⟨hS.ev.defs, hpan _ _ hk hst.appF.frame⟩))))))))))
        replace hS : Ss _ _ _ H [f647, f652, f908, f913, f906, f656, f661] F _ _ := hS
        refine wpList_nil (then_n ?_)
        have hcl2 := hcl.cons (k := 10) (nth_get rfl) hpre
        have hmust := must_cons (k := 10) hm (chain (k := 10) hcl (nth_get rfl) hpre [(9, 10), (4, 9), (8, 9), (3, 4), (7, 8), (2, 3), (6, 7), (1, 2), (5, 6), (0, 1)] [] rfl (fun _ h => absurd h List.not_mem_nil))
        replace hst := hS.st
        have hav2 := hav.cons (vals' := [some (ptr b635 0), some (ptr b635 0), some (ptr b635 1), some (.slice A903 out905.length c904), some (.int .i64 (out905.length : Int)), some (ptr b635 0), some (ptr b635 0), some (ptr b635 2), some (.int .i64 r634.limit_), some (.bool ((out905.length : Int) == r634.limit_)), some (.tuple ⟨[]⟩)]) (k := 10) ⟨rfl, rfl, rfl, rfl, rfl, rfl, rfl, rfl, rfl, rfl, trivial⟩ rfl
        replace hA := (hA.next hav (subV.get (l' := [some (ptr b635 0), some (ptr b635 0), some (ptr b635 1), some (.slice A903 out905.length c904), some (.int .i64 (out905.length : Int)), some (ptr b635 0), some (ptr b635 0), some (ptr b635 2), some (.int .i64 r634.limit_), some (.bool ((out905.length : Int) == r634.limit_)), some (.tuple ⟨[]⟩)]) ⟨rfl, rfl, rfl, rfl, rfl, rfl, rfl, rfl, rfl, rfl, trivial⟩)).step rfl (nth_get rfl) hk rfl rfl rfl
        clear hm hav
        replace hcl := hcl2
        refine phaseE (vals := [some (ptr b635 0), some (ptr b635 0), some (ptr b635 1), some (.slice A903 out905.length c904), some (.int .i64 (out905.length : Int)), some (ptr b635 0), some (ptr b635 0), some (ptr b635 2), some (.int .i64 r634.limit_), some (.bool ((out905.length : Int) == r634.limit_)), some (.tuple ⟨[]⟩)]) [10, 9, 4, 8, 3, 7, 2, 6, 1, 5, 0] [] rfl rfl rfl trivial (fun a w hS => ?_) ho hcl hmust hA hst
        replace hS := hS.env2 (e' := [(0, ptr b635 0), (1, ptr b646 0), (2, ptr b655 0), (6, .int .i64 x911)]) ⟨rfl, rfl, rfl, rfl, trivial⟩
        refine then_n ?_
        refine wp_seq ?_
        refine wp_region_list ?_
        refine st1 hS (mv rfl) rfl fun a w hS => ?_
        refine st1 hS (mv rfl) rfl fun a w hS => ?_
        refine st1 hS (nck rfl) rfl fun a w hS => ?_
        refine st1 hS (fad rfl Tryd.runUnderlying44 rfl Tryd.sizeOf30 rfl) rfl fun a w hS => ?_
        refine st1 hS (ldb 2 rfl hB909 rfl rfl Tryd.isAgg30) rfl fun a w hS => ?_
        refine st1 hS (mv rfl) rfl fun a w hS => ?_
        refine st1 hS (cvi rfl Tryd.runUnderlying3 Tryd.runUnderlying5) rfl fun a w hS => ?_
        refine bsl (g := (ci .u8)) ([(wr .u8 x911)] : List Int) [.int .u8 (wr .u8 x911)] hS Tryd.runUnderlying30 Tryd.sizeOf5 X.el5 rfl rfl rfl (by simp [Value.cells]) rfl rfl rfl rfl rfl fun w A919 c920 f921 hV922 hS => ?_
        obtain ⟨hk923, hM⟩ := wp_chk hM
        refine apV (ys := ([(wr .u8 x911)] : List Int)) 5 hS rfl rfl hV907 rfl (hV922.rd (i := 0) rfl) Tryd.runUnderlying30 Tryd.runUnderlying30 X.el5 (fun _ => rfl) rfl one_t5 hk923 rfl fun zs928 w A924 c925 f926 hz hV927 hS => ?_
        have hM := lt_to hz hM; clear hz
        refine st1 hS (nck rfl) rfl fun a w hS => ?_
        refine st1 hS (fad rfl Tryd.runUnderlying44 rfl Tryd.sizeOf30 rfl) rfl fun a w hS => ?_
        refine sto 3 ([ptr b638 0, .slice A924 zs928.length c925, .int .i64 r634.limit_]) hS rfl rfl hB909 rfl rfl rfl rfl Tryd.sizeOf30 fun w f929 hB930 hS => ?_
        refine wpList_nil ?_
        refine then_n ?_
        refine wp_exit ?_
        refine blk_ne rfl (then_ex (blk_same (then_n ?_)))
        exact hJ995 _ _ ⟨at_912, f913, A924, c925, zs928, f926, f929, hS.to [6, 7, 1, 2, 3, 4, 5] (by kernel_rfl) ⟨rfl, rfl, rfl, trivial⟩, h914, hV927, hB930, hM⟩
      · refine wp_skip ?_
        refine blk_n (then_n ?_)
        refine wp_seq ?_
        refine wp_region_list ?_
        refine st1 hS (mv rfl) rfl fun a w hS => ?_
        refine st1 hS (bin rfl rfl rfl) rfl fun a w hS => ?_
        refine s_call hS rfl Tryd.call26 (inflate_refuse_c hG K (decide (x911 ≥ (286 : Int))) (3 : Int) (hS.st.part 0 [0, 1, 2, 3, 4, 5, 6] (by kernel_rfl)) (wp_bind hM) (fun  w hM  hst => s_back hS.ev hst.appF rfl fun hS => ?_) (fun v w hk hst => s_pan (then_pan (blk_pan (then_pan (blk_pan (⟨hS.ev.defs, hpan _ _ hk hst.appF.frame⟩)))))))
        replace hS : Ss _ _ _ H [f647, f652, f908, f913, f906, f656, f661] F _ _ := hS
        refine wpList_nil ?_
        refine then_n ?_
        refine wp_seq ?_
        refine wp_region_list ?_
        refine st1 hS (mv rfl) rfl fun a w hS => ?_
        refine st1 hS (mv rfl) rfl fun a w hS => ?_
        refine st1 hS (bin rfl rfl rfl) rfl fun a w hS => ?_
        obtain ⟨hk931, hM⟩ := wp_chk hM
        refine st1 hS (ixB rfl rfl Tryd.runUnderlying84 Tryd.sizeOf83 hk931) rfl fun a w hS => ?_
        refine st1 hS (ldGA rfl hG.g0 (fun _ => rfl) hk931 Tryd.isAgg83 Tryd.sizeOf83) rfl fun a w hS => ?_
        refine s_call hS rfl Tryd.call37 (inflate_reader_far_c hG K (T_inflate_reader.mk (T_bits_Reader.mk (T_bits_place.mk at_912) r634.Reader_.text_) out905 r634.limit_) (T_inflate_run.mk ((rd tab_inflate_lengths (w64 (x911 - (257 : Int)))).from_) ((rd tab_inflate_lengths (w64 (x911 - (257 : Int)))).bits_)) b635 f908 b638 f913 A903 c904 f906 hB909 h914 hV907 (hS.st.part 3 [2, 3, 4, 0, 1, 5, 6] (by kernel_rfl)) (wp_bind hM) (fun x932 at_933 f934 w hM h935 hst => s_back hS.ev hst.appF rfl fun hS => ?_) (fun v w hk hst => s_pan (then_pan (blk_pan (then_pan (blk_pan (⟨hS.ev.defs, hpan _ _ hk hst.appF.frame⟩)))))))
        replace hS : Ss _ _ _ H [f908, f934, f906, f647, f652, f656, f661] F _ _ := hS
        refine st1 hS (asg rfl) rfl fun a w hS => ?_
        refine wpList_nil ?_
        refine then_n ?_
        refine wp_seq ?_
        refine wp_region_list ?_
        refine st1 hS (mv rfl) rfl fun a w hS => ?_
        refine st1 hS (mv rfl) rfl fun a w hS => ?_
        refine s_call hS rfl Tryd.call36 (inflate_reader_symbol_c hG K (T_inflate_reader.mk (T_bits_Reader.mk (T_bits_place.mk at_933) r634.Reader_.text_) out905 r634.limit_) back654 b635 f908 b638 f934 A903 c904 f906 b655 f656 A659 c660 f661 hB909 h935 hV907 hB657 hl658 hV662 (hS.st.part 5 [0, 1, 2, 5, 6, 3, 4] (by kernel_rfl)) (wp_bind hM) (fun x936 at_937 f938 w hM h939 hst => s_back hS.ev hst.appF rfl fun hS => ?_) (fun v w hk hst => s_pan (then_pan (blk_pan (then_pan (blk_pan (⟨hS.ev.defs, hpan _ _ hk hst.appF.frame⟩)))))))
        replace hS : Ss _ _ _ H [f656, f661, f908, f938, f906, f647, f652] F _ _ := hS
        refine st1 hS (asg rfl) rfl fun a w hS => ?_
        refine wpList_nil ?_
        refine then_n ?_
        refine wp_seq ?_
        refine wp_region_list ?_
        refine st1 hS (mv rfl) rfl fun a w hS => ?_
        refine st1 hS (bin rfl rfl rfl) rfl fun a w hS => ?_
        refine s_call hS rfl Tryd.call26 (inflate_refuse_c hG K (decide (x936 ≥ (30 : Int))) (3 : Int) (hS.st.part 0 [0, 1, 2, 3, 4, 5, 6] (by kernel_rfl)) (wp_bind hM) (fun  w hM  hst => s_back hS.ev hst.appF rfl fun hS => ?_) (fun v w hk hst => s_pan (then_pan (blk_pan (then_pan (blk_pan (⟨hS.ev.defs, hpan _ _ hk hst.appF.frame⟩)))))))
        replace hS : Ss _ _ _ H [f656, f661, f908, f938, f906, f647, f652] F _ _ := hS
        refine wpList_nil ?_
        refine then_n ?_
        refine wp_seq ?_
        refine wp_region_list ?_
        refine st1 hS (mv rfl) rfl fun a w hS => ?_
        refine st1 hS (mv rfl) rfl fun a w hS => ?_
        obtain ⟨hk940, hM⟩ := wp_chk hM
        refine st1 hS (ixB rfl rfl Tryd.runUnderlying85 Tryd.sizeOf83 hk940) rfl fun a w hS => ?_
        refine st1 hS (ldGA rfl hG.g1 (fun _ => rfl) hk940 Tryd.isAgg83 Tryd.sizeOf83) rfl fun a w hS => ?_
        refine s_call hS rfl Tryd.call37 (inflate_reader_far_c hG K (T_inflate_reader.mk (T_bits_Reader.mk (T_bits_place.mk at_937) r634.Reader_.text_) out905 r634.limit_) (T_inflate_run.mk ((rd tab_inflate_distances x936).from_) ((rd tab_inflate_distances x936).bits_)) b635 f908 b638 f938 A903 c904 f906 hB909 h939 hV907 (hS.st.part 3 [2, 3, 4, 0, 1, 5, 6] (by kernel_rfl)) (wp_bind hM) (fun x941 at_942 f943 w hM h944 hst => s_back hS.ev hst.appF rfl fun hS => ?_) (fun v w hk hst => s_pan (then_pan (blk_pan (then_pan (blk_pan (⟨hS.ev.defs, hpan _ _ hk hst.appF.frame⟩)))))))
        replace hS : Ss _ _ _ H [f908, f943, f906, f656, f661, f647, f652] F _ _ := hS
        refine st1 hS (asg rfl) rfl fun a w hS => ?_
        refine wpList_nil ?_
        refine then_n ?_
        refine wp_seq ?_
        refine wp_region_list ?_
        refine st1 hS (mv rfl) rfl fun a w hS => ?_
        refine st1 hS (mv rfl) rfl fun a w hS => ?_
        refine st1 hS (nck rfl) rfl fun a w hS => ?_
        refine st1 hS (fad rfl Tryd.runUnderlying44 rfl Tryd.sizeOf30 rfl) rfl fun a w hS => ?_
        refine st1 hS (ldb 0 rfl hB909 rfl rfl Tryd.isAgg30) rfl fun a w hS => ?_
        refine st1 hS (lenV rfl Tryd.runUnderlying30) rfl fun a w hS => ?_
        refine st1 hS (bin rfl rfl rfl) rfl fun a w hS => ?_
        refine s_call hS rfl Tryd.call26 (inflate_refuse_c hG K (decide (x941 > (out905.length : Int))) (3 : Int) (hS.st.part 0 [0, 1, 2, 3, 4, 5, 6] (by kernel_rfl)) (wp_bind hM) (fun  w hM  hst => s_back hS.ev hst.appF rfl fun hS => ?_) (fun v w hk hst => s_pan (then_pan (blk_pan (then_pan (blk_pan (⟨hS.ev.defs, hpan _ _ hk hst.appF.frame⟩)))))))
        replace hS : Ss _ _ _ H [f908, f943, f906, f656, f661, f647, f652] F _ _ := hS
        refine wpList_nil ?_
        refine then_n ?_
        refine wp_seq ?_
        refine draw_begin (vals := [some (ptr b635 0), some (ptr b635 0), some (ptr b635 1), some (.slice A903 out905.length c904), some (.int .i64 (out905.length : Int)), some (.int .i64 x932), some (.int .i64 (w64 ((out905.length : Int) + x932))), some (ptr b635 0), some (ptr b635 0), some (ptr b635 2), some (.int .i64 r634.limit_), some (.bool (decide ((w64 ((out905.length : Int) + x932)) > r634.limit_))), none]) hS mixed rfl ?_
        intro l w ho hcl hA hst
        refine phase' (vals := [some (ptr b635 0), some (ptr b635 0), some (ptr b635 1), some (.slice A903 out905.length c904), some (.int .i64 (out905.length : Int)), some (.int .i64 x932), some (.int .i64 (w64 ((out905.length : Int) + x932))), some (ptr b635 0), some (ptr b635 0), some (ptr b635 2), some (.int .i64 r634.limit_), some (.bool (decide ((w64 ((out905.length : Int) + x932)) > r634.limit_))), none]) 12 [] [0, 1, 2, 3, 4, 5, 6, 7, 8, 9, 10, 11] rfl rfl rfl rfl (by exact ⟨nR rfl rfl rfl rfl rfl (by exact ovE (mv rfl) rfl), nR rfl rfl rfl rfl rfl (by exact ovE (nck rfl) rfl), nR rfl rfl rfl rfl rfl (by exact ovE (fad rfl Tryd.runUnderlying44 rfl Tryd.sizeOf30 rfl) rfl), nR rfl rfl rfl rfl rfl (by exact ovE (ldb 0 rfl hB909 rfl rfl Tryd.isAgg30) rfl), nR rfl rfl rfl rfl rfl (by exact ovE (lenV rfl Tryd.runUnderlying30) rfl), nR rfl rfl rfl rfl rfl (by exact ovE (mv rfl) rfl), nR rfl rfl rfl rfl rfl (by exact ovE (bin rfl rfl rfl) rfl), nR rfl rfl rfl rfl rfl (by exact ovE (mv rfl) rfl), nR rfl rfl rfl rfl rfl (by exact ovE (nck rfl) rfl), nR rfl rfl rfl rfl rfl (by exact ovE (fad rfl Tryd.runUnderlying44 rfl Tryd.sizeOf3 rfl) rfl), nR rfl rfl rfl rfl rfl (by exact ovE (ldb 0 rfl hB909 rfl rfl Tryd.isAgg3) rfl), nR rfl rfl rfl rfl rfl (by exact ovE (bin rfl rfl rfl) rfl), trivial⟩) (fun D l a w ho hcl hav hpre hm hE hk hA hst => ?_) ho hcl (fun j hj => (List.not_mem_nil hj).elim) (fun m hm => (List.not_mem_nil hm).elim) List.not_mem_nil hA hst
        have hS := (Ss.mk hE hst).env2 (e' := [(80, .bool (decide ((w64 ((out905.length : Int) + x932)) > r634.limit_)))]) ⟨rfl, trivial⟩
        refine op_of_nth rfl ?_
        refine s_call hS rfl Tryd.call26 (inflate_refuse_c hG K (decide ((w64 ((out905.length : Int) + x932)) > r634.limit_)) (11 : Int) (hS.st.part 0 [0, 1, 2, 3, 4, 5, 6] (by kernel_rfl)) (wp_bind hM) (fun  w hM  hst => s_back hS.ev hst.appF rfl fun hS => ?_) (fun v w hk hst => s_pan (then_pan (then_pan (blk_pan (then_pan (blk_pan (⟨hS.ev.defs, hpan _ _ hk hst.appF.frame⟩))))))))
        replace hS : Ss _ _ _ H [f908, f943, f906, f656, f661, f647, f652] F _ _ := hS
        refine wpList_nil (then_n ?_)
        have hcl2 := hcl.cons (k := 12) (nth_get rfl) hpre
        have hmust := must_cons (k := 12) hm (chain (k := 12) hcl (nth_get rfl) hpre [(11, 12), (6, 11), (10, 11), (4, 6), (5, 6), (9, 10), (3, 4), (8, 9), (2, 3), (7, 8), (1, 2), (0, 1)] [] rfl (fun _ h => absurd h List.not_mem_nil))
        replace hst := hS.st
        have hav2 := hav.cons (vals' := [some (ptr b635 0), some (ptr b635 0), some (ptr b635 1), some (.slice A903 out905.length c904), some (.int .i64 (out905.length : Int)), some (.int .i64 x932), some (.int .i64 (w64 ((out905.length : Int) + x932))), some (ptr b635 0), some (ptr b635 0), some (ptr b635 2), some (.int .i64 r634.limit_), some (.bool (decide ((w64 ((out905.length : Int) + x932)) > r634.limit_))), some (.tuple ⟨[]⟩)]) (k := 12) ⟨rfl, rfl, rfl, rfl, rfl, rfl, rfl, rfl, rfl, rfl, rfl, rfl, trivial⟩ rfl
        replace hA := (hA.next hav (subV.get (l' := [some (ptr b635 0), some (ptr b635 0), some (ptr b635 1), some (.slice A903 out905.length c904), some (.int .i64 (out905.length : Int)), some (.int .i64 x932), some (.int .i64 (w64 ((out905.length : Int) + x932))), some (ptr b635 0), some (ptr b635 0), some (ptr b635 2), some (.int .i64 r634.limit_), some (.bool (decide ((w64 ((out905.length : Int) + x932)) > r634.limit_))), some (.tuple ⟨[]⟩)]) ⟨rfl, rfl, rfl, rfl, rfl, rfl, rfl, rfl, rfl, rfl, rfl, rfl, trivial⟩)).step rfl (nth_get rfl) hk rfl rfl rfl
        clear hm hav
        replace hcl := hcl2
        refine phaseE (vals := [some (ptr b635 0), some (ptr b635 0), some (ptr b635 1), some (.slice A903 out905.length c904), some (.int .i64 (out905.length : Int)), some (.int .i64 x932), some (.int .i64 (w64 ((out905.length : Int) + x932))), some (ptr b635 0), some (ptr b635 0), some (ptr b635 2), some (.int .i64 r634.limit_), some (.bool (decide ((w64 ((out905.length : Int) + x932)) > r634.limit_))), some (.tuple ⟨[]⟩)]) [12, 11, 6, 10, 4, 5, 9, 3, 8, 2, 7, 1, 0] [] rfl rfl rfl trivial (fun a w hS => ?_) ho hcl hmust hA hst
        replace hS := hS.env2 (e' := [(0, ptr b635 0), (1, ptr b646 0), (2, ptr b655 0), (7, .int .i64 x932), (9, .int .i64 x941)]) ⟨rfl, rfl, rfl, rfl, rfl, trivial⟩
        refine then_n ?_
        refine wp_seq ?_
        refine wp_region_list ?_
        refine st1 hS (mv rfl) rfl fun a w hS => ?_
        refine st1 hS (mv rfl) rfl fun a w hS => ?_
        refine wpList_nil ?_
        refine then_n ?_
        refine wp_block ?_
        refine s_loopJ (fun k978 a w => ∃ (A970 : Option Addr) (c971 : Nat) (out972 : (List Int)) (f973 : Frag) (f975 : Frag) (v977 : Int), Ss 108 [] [(0, ptr b635 0), (1, ptr b646 0), (2, ptr b655 0), (9, .int .i64 x941), (82, .int .i64 x932), (83, .int .i64 v977)] H [f656, f661, f647, f652, f975, f943, f973] F a w ∧ (Vec 5 (ci .u8) 1 A970 out972 c971 f973) ∧ (Blk f975 b635 ([ptr b638 0, .slice A970 out972.length c971, .int .i64 r634.limit_]) 44) ∧ (inflate_reader_symbols.l2 K (inflate_reader_symbols.l1 K r634 literals645 back654 k910) x932 x941 at_942 k978 out972 v977).wp kr kp) K ?_ ?_ ?_
        · exact ⟨A903, c904, out905, f906, f908, (0 : Int), hS.to [3, 4, 5, 6, 0, 1, 2] (by kernel_rfl) ⟨rfl, rfl, rfl, rfl, rfl, rfl, trivial⟩, hV907, hB909, hM⟩
        · intro a w hI; obtain ⟨_, _, _, _, _, _, _, _, _, hM⟩ := hI; exact hM
        · intro k978 a w hI J994 hJ994
          obtain ⟨A970, c971, out972, f973, f975, v977, hS, hV974, hB976, hM⟩ := hI
          rw [inflate_reader_symbols.l2] at hM
          refine wp_seq ?_
          refine wp_region_list ?_
          refine st1 hS (bin rfl rfl rfl) rfl fun a w hS => ?_
          refine wpList_nil ?_
          refine then_n ?_
          refine wp_seq ?_
          refine s_cond hS rfl hM (fun hb979 hM => ?_) (fun hb979 hM => ?_)
          · refine wp_skip ?_
            refine then_n ?_
            refine wp_seq ?_
            refine wp_block ?_
            obtain ⟨hk981, hM⟩ := wp_chk hM
            refine draw_begin (vals := [some (ptr b635 0), some (ptr b635 0), some (ptr b635 0), some (ptr b635 1), some (.slice A970 out972.length c971), some (ptr b635 0), some (ptr b635 0), some (ptr b635 1), some (.slice A970 out972.length c971), some (ptr b635 0), some (ptr b635 0), some (ptr b635 1), some (.slice A970 out972.length c971), some (.int .i64 (out972.length : Int)), some (.int .i64 x941), some (.int .i64 (w64 ((out972.length : Int) - x941))), some (slp A970 (Int.toNat (w64 ((out972.length : Int) - x941)) * 1)), some (.int .u8 (rd out972 (w64 ((out972.length : Int) - x941)))), none, none, none, none, none]) hS mixed rfl ?_
            intro l w ho hcl hA hst
            refine phase' (vals := [some (ptr b635 0), some (ptr b635 0), some (ptr b635 0), some (ptr b635 1), some (.slice A970 out972.length c971), some (ptr b635 0), some (ptr b635 0), some (ptr b635 1), some (.slice A970 out972.length c971), some (ptr b635 0), some (ptr b635 0), some (ptr b635 1), some (.slice A970 out972.length c971), some (.int .i64 (out972.length : Int)), some (.int .i64 x941), some (.int .i64 (w64 ((out972.length : Int) - x941))), some (slp A970 (Int.toNat (w64 ((out972.length : Int) - x941)) * 1)), some (.int .u8 (rd out972 (w64 ((out972.length : Int) - x941)))), none, none, none, none, none]) 18 [] [0, 1, 2, 3, 4, 5, 6, 7, 8, 9, 10, 11, 12, 13, 14, 15, 16, 17] rfl rfl rfl rfl (by exact ⟨nR rfl rfl rfl rfl rfl (by exact ovE (mv rfl) rfl), nR rfl rfl rfl rfl rfl (by exact ovE (mv rfl) rfl), nR rfl rfl rfl rfl rfl (by exact ovE (nck rfl) rfl), nR rfl rfl rfl rfl rfl (by exact ovE (fad rfl Tryd.runUnderlying44 rfl Tryd.sizeOf30 rfl) rfl), nR rfl rfl rfl rfl rfl (by exact ovE (ldb 4 rfl hB976 rfl rfl Tryd.isAgg30) rfl), nR rfl rfl rfl rfl rfl (by exact ovE (mv rfl) rfl), nR rfl rfl rfl rfl rfl (by exact ovE (nck rfl) rfl), nR rfl rfl rfl rfl rfl (by exact ovE (fad rfl Tryd.runUnderlying44 rfl Tryd.sizeOf30 rfl) rfl), nR rfl rfl rfl rfl rfl (by exact ovE (ldb 4 rfl hB976 rfl rfl Tryd.isAgg30) rfl), nR rfl rfl rfl rfl rfl (by exact ovE (mv rfl) rfl), nR rfl rfl rfl rfl rfl (by exact ovE (nck rfl) rfl), nR rfl rfl rfl rfl rfl (by exact ovE (fad rfl Tryd.runUnderlying44 rfl Tryd.sizeOf30 rfl) rfl), nR rfl rfl rfl rfl rfl (by exact ovE (ldb 4 rfl hB976 rfl rfl Tryd.isAgg30) rfl), nR rfl rfl rfl rfl rfl (by exact ovE (lenV rfl Tryd.runUnderlying30) rfl), nR rfl rfl rfl rfl rfl (by exact ovE (mv rfl) rfl), nR rfl rfl rfl rfl rfl (by exact ovE (bin rfl rfl rfl) rfl), nR rfl rfl rfl rfl rfl (by exact ovE (ixV rfl rfl Tryd.runUnderlying30 Tryd.sizeOf5 (hV974.rd (i := 6) rfl) (fun _ => rfl) rfl hk981) rfl), nR rfl rfl rfl rfl rfl (by exact ovE (ldV0 rfl (hV974.rd (i := 6) rfl) (fun _ => rfl) hk981 rfl Tryd.isAgg5) rfl), trivial⟩) (fun D l a w ho hcl hav hpre hm hE hk hA hst => ?_) ho hcl (fun j hj => (List.not_mem_nil hj).elim) (fun m hm => (List.not_mem_nil hm).elim) List.not_mem_nil hA hst
            have hS := (Ss.mk hE hst).env2 (e' := [(102, .int .u8 (rd out972 (w64 ((out972.length : Int) - x941))))]) ⟨rfl, trivial⟩
            refine op_of_nth rfl ?_
            refine bsl (g := (ci .u8)) ([(rd out972 (w64 ((out972.length : Int) - x941)))] : List Int) [.int .u8 (rd out972 (w64 ((out972.length : Int) - x941)))] hS Tryd.runUnderlying30 Tryd.sizeOf5 X.el5 rfl rfl rfl (by simp [Value.cells]) rfl rfl rfl rfl rfl fun w A982 c983 f984 hV985 hS => ?_
            refine wpList_nil (then_n ?_)
            have hcl2 := hcl.cons (k := 18) (nth_get rfl) hpre
            have hmust := must_cons (k := 18) hm (chain (k := 18) hcl (nth_get rfl) hpre [(17, 18), (16, 17), (8, 16), (15, 16), (7, 8), (13, 15), (14, 15), (6, 7), (12, 13), (5, 6), (11, 12), (10, 11), (9, 10)] [] rfl (fun _ h => absurd h List.not_mem_nil))
            replace hst := hS.st
            have hav2 := hav.cons (vals' := [some (ptr b635 0), some (ptr b635 0), some (ptr b635 0), some (ptr b635 1), some (.slice A970 out972.length c971), some (ptr b635 0), some (ptr b635 0), some (ptr b635 1), some (.slice A970 out972.length c971), some (ptr b635 0), some (ptr b635 0), some (ptr b635 1), some (.slice A970 out972.length c971), some (.int .i64 (out972.length : Int)), some (.int .i64 x941), some (.int .i64 (w64 ((out972.length : Int) - x941))), some (slp A970 (Int.toNat (w64 ((out972.length : Int) - x941)) * 1)), some (.int .u8 (rd out972 (w64 ((out972.length : Int) - x941)))), some (.slice A982 ([(rd out972 (w64 ((out972.length : Int) - x941)))] : List Int).length c983), none, none, none, none]) (k := 18) ⟨rfl, rfl, rfl, rfl, rfl, rfl, rfl, rfl, rfl, rfl, rfl, rfl, rfl, rfl, rfl, rfl, rfl, rfl, trivial⟩ rfl
            replace hA := (hA.next hav (subV.get (l' := [some (ptr b635 0), some (ptr b635 0), some (ptr b635 0), some (ptr b635 1), some (.slice A970 out972.length c971), some (ptr b635 0), some (ptr b635 0), some (ptr b635 1), some (.slice A970 out972.length c971), some (ptr b635 0), some (ptr b635 0), some (ptr b635 1), some (.slice A970 out972.length c971), some (.int .i64 (out972.length : Int)), some (.int .i64 x941), some (.int .i64 (w64 ((out972.length : Int) - x941))), some (slp A970 (Int.toNat (w64 ((out972.length : Int) - x941)) * 1)), some (.int .u8 (rd out972 (w64 ((out972.length : Int) - x941)))), some (.slice A982 ([(rd out972 (w64 ((out972.length : Int) - x941)))] : List Int).length c983), none, none, none, none]) ⟨rfl, rfl, rfl, rfl, rfl, rfl, rfl, rfl, rfl, rfl, rfl, rfl, rfl, rfl, rfl, rfl, rfl, rfl, trivial⟩)).step rfl (nth_get rfl) hk rfl rfl rfl
            clear hm hav
            replace hcl := hcl2
            refine phase' (vals := [some (ptr b635 0), some (ptr b635 0), some (ptr b635 0), some (ptr b635 1), some (.slice A970 out972.length c971), some (ptr b635 0), some (ptr b635 0), some (ptr b635 1), some (.slice A970 out972.length c971), some (ptr b635 0), some (ptr b635 0), some (ptr b635 1), some (.slice A970 out972.length c971), some (.int .i64 (out972.length : Int)), some (.int .i64 x941), some (.int .i64 (w64 ((out972.length : Int) - x941))), some (slp A970 (Int.toNat (w64 ((out972.length : Int) - x941)) * 1)), some (.int .u8 (rd out972 (w64 ((out972.length : Int) - x941)))), some (.slice A982 ([(rd out972 (w64 ((out972.length : Int) - x941)))] : List Int).length c983), none, none, none, none]) 19 [18, 17, 16, 8, 15, 7, 13, 14, 6, 12, 5, 11, 10, 9] [0, 1, 2, 3, 4] rfl rfl rfl rfl (by exact ⟨nR rfl rfl rfl rfl rfl (by exact ovE (mv rfl) rfl), nR rfl rfl rfl rfl rfl (by exact ovE (mv rfl) rfl), nR rfl rfl rfl rfl rfl (by exact ovE (nck rfl) rfl), nR rfl rfl rfl rfl rfl (by exact ovE (fad rfl Tryd.runUnderlying44 rfl Tryd.sizeOf30 rfl) rfl), nR rfl rfl rfl rfl rfl (by exact ovE (ldb 5 rfl hB976 rfl rfl Tryd.isAgg30) rfl), trivial⟩) (fun D l a w ho hcl hav hpre hm hE hk hA hst => ?_) ho hcl hav2 hmust (hav2.notin rfl) hA hst
            have hS := (Ss.mk hE hst).env2 (e' := [(89, .slice A970 out972.length c971), (103, .slice A982 ([(rd out972 (w64 ((out972.length : Int) - x941)))] : List Int).length c983)]) ⟨rfl, rfl, trivial⟩
            refine op_of_nth rfl ?_
            obtain ⟨hk986, hM⟩ := wp_chk hM
            refine apV (ys := ([(rd out972 (w64 ((out972.length : Int) - x941)))] : List Int)) 7 hS rfl rfl hV974 rfl (hV985.rd (i := 0) rfl) Tryd.runUnderlying30 Tryd.runUnderlying30 X.el5 (fun _ => rfl) rfl one_t5 hk986 rfl fun zs991 w A987 c988 f989 hz hV990 hS => ?_
            have hM := lt_to hz hM; clear hz
            refine wpList_nil (then_n ?_)
            have hcl2 := hcl.cons (k := 19) (nth_get rfl) hpre
            have hmust := must_cons (k := 19) hm (chain (k := 19) hcl (nth_get rfl) hpre [(4, 19), (18, 19), (3, 4), (17, 18), (2, 3), (16, 17), (1, 2), (8, 16), (15, 16), (7, 8), (13, 15), (14, 15), (6, 7), (12, 13), (5, 6), (11, 12), (10, 11), (9, 10)] [] rfl (fun _ h => absurd h List.not_mem_nil))
            replace hst := hS.st
            have hav2 := hav.cons (vals' := [some (ptr b635 0), some (ptr b635 0), some (ptr b635 0), some (ptr b635 1), some (.slice A970 out972.length c971), some (ptr b635 0), some (ptr b635 0), some (ptr b635 1), some (.slice A970 out972.length c971), some (ptr b635 0), some (ptr b635 0), some (ptr b635 1), some (.slice A970 out972.length c971), some (.int .i64 (out972.length : Int)), some (.int .i64 x941), some (.int .i64 (w64 ((out972.length : Int) - x941))), some (slp A970 (Int.toNat (w64 ((out972.length : Int) - x941)) * 1)), some (.int .u8 (rd out972 (w64 ((out972.length : Int) - x941)))), some (.slice A982 ([(rd out972 (w64 ((out972.length : Int) - x941)))] : List Int).length c983), some (.slice A987 zs991.length c988), some (ptr b635 0), some (ptr b635 1), none]) (k := 19) ⟨rfl, rfl, rfl, rfl, rfl, rfl, rfl, rfl, rfl, rfl, rfl, rfl, rfl, rfl, rfl, rfl, rfl, rfl, rfl, trivial⟩ rfl
            replace hA := (hA.next hav (subV.get (l' := [some (ptr b635 0), some (ptr b635 0), some (ptr b635 0), some (ptr b635 1), some (.slice A970 out972.length c971), some (ptr b635 0), some (ptr b635 0), some (ptr b635 1), some (.slice A970 out972.length c971), some (ptr b635 0), some (ptr b635 0), some (ptr b635 1), some (.slice A970 out972.length c971), some (.int .i64 (out972.length : Int)), some (.int .i64 x941), some (.int .i64 (w64 ((out972.length : Int) - x941))), some (slp A970 (Int.toNat (w64 ((out972.length : Int) - x941)) * 1)), some (.int .u8 (rd out972 (w64 ((out972.length : Int) - x941)))), some (.slice A982 ([(rd out972 (w64 ((out972.length : Int) - x941)))] : List Int).length c983), some (.slice A987 zs991.length c988), some (ptr b635 0), some (ptr b635 1), none]) ⟨rfl, rfl, rfl, rfl, rfl, rfl, rfl, rfl, rfl, rfl, rfl, rfl, rfl, rfl, rfl, rfl, rfl, rfl, rfl, trivial⟩)).step rfl (nth_get rfl) hk rfl rfl rfl
            clear hm hav
            replace hcl := hcl2
            refine phase' (vals := [some (ptr b635 0), some (ptr b635 0), some (ptr b635 0), some (ptr b635 1), some (.slice A970 out972.length c971), some (ptr b635 0), some (ptr b635 0), some (ptr b635 1), some (.slice A970 out972.length c971), some (ptr b635 0), some (ptr b635 0), some (ptr b635 1), some (.slice A970 out972.length c971), some (.int .i64 (out972.length : Int)), some (.int .i64 x941), some (.int .i64 (w64 ((out972.length : Int) - x941))), some (slp A970 (Int.toNat (w64 ((out972.length : Int) - x941)) * 1)), some (.int .u8 (rd out972 (w64 ((out972.length : Int) - x941)))), some (.slice A982 ([(rd out972 (w64 ((out972.length : Int) - x941)))] : List Int).length c983), some (.slice A987 zs991.length c988), some (ptr b635 0), some (ptr b635 1), none]) 22 [19, 4, 18, 3, 17, 2, 16, 1, 8, 15, 7, 13, 14, 6, 12, 5, 11, 10, 9, 18, 17, 16, 8, 15, 7, 13, 14, 6, 12, 5, 11, 10, 9] [0, 20, 21] rfl rfl rfl rfl (by exact ⟨nR rfl rfl rfl rfl rfl (by exact ovE (mv rfl) rfl), nR rfl rfl rfl rfl rfl (by exact ovE (nck rfl) rfl), nR rfl rfl rfl rfl rfl (by exact ovE (fad rfl Tryd.runUnderlying44 rfl Tryd.sizeOf30 rfl) rfl), trivial⟩) (fun D l a w ho hcl hav hpre hm hE hk hA hst => ?_) ho hcl hav2 hmust (hav2.notin rfl) hA hst
            have hS := (Ss.mk hE hst).env2 (e' := [(104, .slice A987 zs991.length c988), (106, ptr b635 1)]) ⟨rfl, rfl, trivial⟩
            refine op_of_nth rfl ?_
            refine sto 5 ([ptr b638 0, .slice A987 zs991.length c988, .int .i64 r634.limit_]) hS rfl rfl hB976 rfl rfl rfl rfl Tryd.sizeOf30 fun w f992 hB993 hS => ?_
            refine wpList_nil (then_n ?_)
            have hcl2 := hcl.cons (k := 22) (nth_get rfl) hpre
            have hmust := must_cons (k := 22) hm (chain (k := 22) hcl (nth_get rfl) hpre [(0, 22), (1, 22), (2, 22), (3, 22), (4, 22), (5, 22), (6, 22), (7, 22), (8, 22), (9, 22), (10, 22), (11, 22), (12, 22), (13, 22), (14, 22), (15, 22), (16, 22), (17, 22), (18, 22), (19, 22), (21, 22), (20, 21)] [] rfl (fun _ h => absurd h List.not_mem_nil))
            replace hst := hS.st
            have hav2 := hav.cons (vals' := [some (ptr b635 0), some (ptr b635 0), some (ptr b635 0), some (ptr b635 1), some (.slice A970 out972.length c971), some (ptr b635 0), some (ptr b635 0), some (ptr b635 1), some (.slice A970 out972.length c971), some (ptr b635 0), some (ptr b635 0), some (ptr b635 1), some (.slice A970 out972.length c971), some (.int .i64 (out972.length : Int)), some (.int .i64 x941), some (.int .i64 (w64 ((out972.length : Int) - x941))), some (slp A970 (Int.toNat (w64 ((out972.length : Int) - x941)) * 1)), some (.int .u8 (rd out972 (w64 ((out972.length : Int) - x941)))), some (.slice A982 ([(rd out972 (w64 ((out972.length : Int) - x941)))] : List Int).length c983), some (.slice A987 zs991.length c988), some (ptr b635 0), some (ptr b635 1), some undef]) (k := 22) ⟨rfl, rfl, rfl, rfl, rfl, rfl, rfl, rfl, rfl, rfl, rfl, rfl, rfl, rfl, rfl, rfl, rfl, rfl, rfl, rfl, rfl, rfl, trivial⟩ rfl
            replace hA := (hA.next hav (subV.get (l' := [some (ptr b635 0), some (ptr b635 0), some (ptr b635 0), some (ptr b635 1), some (.slice A970 out972.length c971), some (ptr b635 0), some (ptr b635 0), some (ptr b635 1), some (.slice A970 out972.length c971), some (ptr b635 0), some (ptr b635 0), some (ptr b635 1), some (.slice A970 out972.length c971), some (.int .i64 (out972.length : Int)), some (.int .i64 x941), some (.int .i64 (w64 ((out972.length : Int) - x941))), some (slp A970 (Int.toNat (w64 ((out972.length : Int) - x941)) * 1)), some (.int .u8 (rd out972 (w64 ((out972.length : Int) - x941)))), some (.slice A982 ([(rd out972 (w64 ((out972.length : Int) - x941)))] : List Int).length c983), some (.slice A987 zs991.length c988), some (ptr b635 0), some (ptr b635 1), some undef]) ⟨rfl, rfl, rfl, rfl, rfl, rfl, rfl, rfl, rfl, rfl, rfl, rfl, rfl, rfl, rfl, rfl, rfl, rfl, rfl, rfl, rfl, rfl, trivial⟩)).stepN (i := 22) (nth_get rfl) rfl
            clear hm hav
            replace hcl := hcl2
            refine phaseE (vals := [some (ptr b635 0), some (ptr b635 0), some (ptr b635 0), some (ptr b635 1), some (.slice A970 out972.length c971), some (ptr b635 0), some (ptr b635 0), some (ptr b635 1), some (.slice A970 out972.length c971), some (ptr b635 0), some (ptr b635 0), some (ptr b635 1), some (.slice A970 out972.length c971), some (.int .i64 (out972.length : Int)), some (.int .i64 x941), some (.int .i64 (w64 ((out972.length : Int) - x941))), some (slp A970 (Int.toNat (w64 ((out972.length : Int) - x941)) * 1)), some (.int .u8 (rd out972 (w64 ((out972.length : Int) - x941)))), some (.slice A982 ([(rd out972 (w64 ((out972.length : Int) - x941)))] : List Int).length c983), some (.slice A987 zs991.length c988), some (ptr b635 0), some (ptr b635 1), some undef]) [22, 0, 1, 2, 3, 4, 5, 6, 7, 8, 9, 10, 11, 12, 13, 14, 15, 16, 17, 18, 19, 21, 20, 19, 4, 18, 3, 17, 2, 16, 1, 8, 15, 7, 13, 14, 6, 12, 5, 11, 10, 9, 18, 17, 16, 8, 15, 7, 13, 14, 6, 12, 5, 11, 10, 9] [] rfl rfl rfl trivial (fun a w hS => ?_) ho hcl hmust hA hst
            replace hS := hS.env2 (e' := [(0, ptr b635 0), (1, ptr b646 0), (2, ptr b655 0), (9, .int .i64 x941), (82, .int .i64 x932), (83, .int .i64 v977)]) ⟨rfl, rfl, rfl, rfl, rfl, rfl, trivial⟩
            refine blk_n (then_n ?_)
            refine wp_region_list ?_
            refine st1 hS (bin rfl rfl rfl) rfl fun a w hS => ?_
            refine st1 hS (mv rfl) rfl fun a w hS => ?_
            refine wpList_nil ?_
            refine then_n ?_
            exact hJ994 _ _ ⟨A987, c988, zs991, f989, f992, (w64 (v977 + (1 : Int))), hS.to [1, 2, 3, 4, 5, 6, 7] (by kernel_rfl) ⟨rfl, rfl, rfl, rfl, rfl, rfl, trivial⟩, hV990, hB993, hM⟩
          · refine wp_exit ?_
            refine then_ex (then_ex (blk_same (blk_n (then_n ?_))))
            exact hJ995 _ _ ⟨at_942, f943, A970, c971, out972, f973, f975, hS.to [0, 1, 2, 3, 4, 5, 6] (by kernel_rfl) ⟨rfl, rfl, rfl, trivial⟩, h944, hV974, hB976, hM⟩

theorem inflate_reader_row_c {H : Imm} {F : List Frag} {w : World} {R : Ending → World → Prop} {kr : ((List Int) × Int) → Prop} {kp : Value → Prop} (hG : Gl H) (K : Nat) (r1116 : T_inflate_reader) (n_1127 : Int) (t1128 : T_huff_Table) (b1117 : Nat) (f1118 : Frag) (b1120 : Nat) (f1121 : Frag) (A1123 : Option Addr) (c1124 : Nat) (f1125 : Frag) (b1129 : Nat) (f1130 : Frag) (A1133 : Option Addr) (c1134 : Nat) (f1135 : Frag) (hB1119 : Blk f1118 b1117 ([ptr b1120 0, .slice A1123 r1116.out_.length c1124, .int .i64 r1116.limit_]) 44) (hB1122 : Blk f1121 b1120 ([.int .i64 r1116.Reader_.place_.at_, str r1116.Reader_.text_]) 57) (hV1126 : Vec 5 (ci .u8) 1 A1123 r1116.out_ c1124 f1125) (hB1131 : Blk f1130 b1129 ((t1128.counts_.flatMap (ci .i64)) ++ [.slice A1133 t1128.symbols_.length c1134]) 110) (hl1132 : t1128.counts_.length = 16) (hV1136 : Vec 3 (ci .i64) 1 A1133 t1128.symbols_ c1134 f1135)
    (hS : St w H [f1118, f1121, f1125, f1130, f1135] F) (hm : (inflate_reader_row.m K r1116 n_1127 t1128).wp kr kp)
    (hret : ∀ (A1310 : Option Addr) (c1311 : Nat) (x1312 : (List Int)) (f1313 : Frag) (at_1315 : Int) (f1316 : Frag) (w : World), kr (x1312, at_1315) → (Vec 3 (ci .i64) 1 A1310 x1312 c1311 f1313) → (Blk f1316 b1120 ([.int .i64 at_1315, str r1116.Reader_.text_]) 57) → St w H [f1313, f1130, f1135, f1118, f1316, f1125] F → R (.returned (.slice A1310 x1312.length c1311)) w)
    (hpan : ∀ v w, kp v → St w H [] F → R (.panicked [⟨v, false, false⟩]) w) :
    Calls Tryd.prog 39 ⟨[ptr b1117 0, .int .i64 n_1127, ptr b1129 0]⟩ w R := by
  refine enter Tryd.func39 rfl Tryd.ntmps39 rfl hS fun a w hS => ?_
  have hM := hm; clear hm
  rw [inflate_reader_row.m] at hM
  refine wp_seq ?_
  refine wp_region_list ?_
  refine st1 hS (asg rfl) rfl fun a w hS => ?_
  obtain ⟨f1137, hV1138, hS⟩ := hS.nilV 3 (ci .i64) 1
  refine wpList_nil ?_
  refine then_n ?_
  refine wp_seq ?_
  refine wp_region_list ?_
  refine st1 hS (asg rfl) rfl fun a w hS => ?_
  obtain ⟨f1139, hV1140, hS⟩ := hS.nilV 3 (ci .i64) 1
  refine wpList_nil ?_
  refine then_n ?_
  refine wp_seq ?_
  refine wp_block ?_
  refine s_loopJ (fun k1233 a w => ∃ (at_1225 : Int) (f1226 : Frag) (A1228 : Option Addr) (c1229 : Nat) (l_1230 : (List Int)) (f1231 : Frag), Ss 63 [] [(0, ptr b1117 0), (1, .int .i64 n_1127), (2, ptr b1129 0), (7, .slice A1228 l_1230.length c1229)] H [f1130, f1135, f1118, f1226, f1125, f1231] F a w ∧ (Blk f1226 b1120 ([.int .i64 at_1225, str r1116.Reader_.text_]) 57) ∧ (Vec 3 (ci .i64) 1 A1228 l_1230 c1229 f1231) ∧ (inflate_reader_row.l1 K r1116 n_1127 t1128 k1233 at_1225 l_1230).wp kr kp) K ?_ ?_ ?_
  · exact ⟨r1116.Reader_.place_.at_, f1121, none, 0, ([] : List Int), f1139, hS.to [5, 6, 2, 3, 4, 0] (by kernel_rfl) ⟨rfl, rfl, rfl, rfl, trivial⟩, hB1122, hV1140, hM⟩
  · intro a w hI; obtain ⟨_, _, _, _, _, _, _, _, _, hM⟩ := hI; exact hM
  · intro k1233 a w hI J1309 hJ1309
    obtain ⟨at_1225, f1226, A1228, c1229, l_1230, f1231, hS, hB1227, hV1232, hM⟩ := hI
    rw [inflate_reader_row.l1] at hM
    refine wp_seq ?_
    refine wp_seq ?_
    refine wp_region_list ?_
    refine st1 hS (mv rfl) rfl fun a w hS => ?_
    refine st1 hS (lenV rfl Tryd.runUnderlying67) rfl fun a w hS => ?_
    refine st1 hS (mv rfl) rfl fun a w hS => ?_
    refine st1 hS (bin rfl rfl rfl) rfl fun a w hS => ?_
    refine wpList_nil ?_
    refine then_n ?_
    refine s_cond hS rfl hM (fun hb1234 hM => ?_) (fun hb1234 hM => ?_)
    · refine wp_skip ?_
      refine then_n ?_
      refine wp_block ?_
      refine wp_seq ?_
      refine wp_region_list ?_
      refine st1 hS (mv rfl) rfl fun a w hS => ?_
      refine st1 hS (mv rfl) rfl fun a w hS => ?_
      refine s_call hS rfl Tryd.call36 (inflate_reader_symbol_c hG K (T_inflate_reader.mk (T_bits_Reader.mk (T_bits_place.mk at_1225) r1116.Reader_.text_) r1116.out_ r1116.limit_) t1128 b1117 f1118 b1120 f1226 A1123 c1124 f1125 b1129 f1130 A1133 c1134 f1135 hB1119 hB1227 hV1126 hB1131 hl1132 hV1136 (hS.st.part 5 [2, 3, 4, 0, 1, 5] (by kernel_rfl)) (wp_bind hM) (fun x1235 at_1236 f1237 w hM h1238 hst => s_back hS.ev hst.appF rfl fun hS => ?_) (fun v w hk hst => s_pan (then_pan (blk_pan (then_pan (blk_pan (then_pan (⟨hS.ev.defs, hpan _ _ hk hst.appF.frame⟩))))))))
      replace hS : Ss _ _ _ H [f1130, f1135, f1118, f1237, f1125, f1231] F _ _ := hS
      refine st1 hS (asg rfl) rfl fun a w hS => ?_
      refine wpList_nil ?_
      refine then_n ?_
      refine wp_seq ?_
      refine wp_region_list ?_
      refine st1 hS (asg rfl) rfl fun a w hS => ?_
      refine st1 hS (asg rfl) rfl fun a w hS => ?_
      refine wpList_nil ?_
      refine then_n ?_
      refine seq_joinJ (fun a w => ∃ (at_1265 : Int) (f1266 : Frag) (value1268 : Int) (times1269 : Int), Ss 63 [] [(0, ptr b1117 0), (1, .int .i64 n_1127), (2, ptr b1129 0), (7, .slice A1228 l_1230.length c1229), (9, .int .i64 value1268), (10, .int .i64 times1269)] H [f1130, f1135, f1118, f1266, f1125, f1231] F a w ∧ (Blk f1266 b1120 ([.int .i64 at_1265, str r1116.Reader_.text_]) 57) ∧ (inflate_reader_row.j2 K (inflate_reader_row.l1 K r1116 n_1127 t1128 k1233) n_1127 l_1230 at_1265 value1268 times1269).wp kr kp) (fun J1270 hJ1270 => ?_) ?_
      · refine wp_block ?_
        refine wp_seq ?_
        refine wp_region_list ?_
        refine st1 hS (mv rfl) rfl fun a w hS => ?_
        refine st1 hS (bin rfl rfl rfl) rfl fun a w hS => ?_
        refine st1x (v := Value.bool) hS (asg rfl) rfl fun v1239 a w hz hS => ?_
        have hM := lt_to hz hM; clear hz
        refine wpList_nil ?_
        refine then_n ?_
        refine s_cond hS rfl hM (fun hb1240 hM => ?_) (fun hb1240 hM => ?_)
        · refine wp_region_list ?_
          refine st1 hS (mv rfl) rfl fun a w hS => ?_
          refine st1 hS (asg rfl) rfl fun a w hS => ?_
          refine wpList_nil ?_
          refine blk_n (then_n ?_)
          exact hJ1270 _ _ ⟨at_1236, f1237, x1235, (1 : Int), hS.to [0, 1, 2, 3, 4, 5] (by kernel_rfl) ⟨rfl, rfl, rfl, rfl, rfl, rfl, trivial⟩, h1238, hM⟩
        · refine wp_seq ?_
          refine wp_region_list ?_
          refine st1 hS (mv rfl) rfl fun a w hS => ?_
          refine st1 hS (bin rfl rfl rfl) rfl fun a w hS => ?_
          refine st1x (v := Value.bool) hS (asg rfl) rfl fun v1241 a w hz hS => ?_
          have hM := lt_to hz hM; clear hz
          refine wpList_nil ?_
          refine then_n ?_
          refine s_cond hS rfl hM (fun hb1242 hM => ?_) (fun hb1242 hM => ?_)
          · refine wp_seq ?_
            refine wp_region_list ?_
            refine st1 hS (mv rfl) rfl fun a w hS => ?_
            refine st1 hS (lenV rfl Tryd.runUnderlying67) rfl fun a w hS => ?_
            refine st1 hS (bin rfl rfl rfl) rfl fun a w hS => ?_
            refine s_call hS rfl Tryd.call26 (inflate_refuse_c hG K ((l_1230.length : Int) == (0 : Int)) (3 : Int) (hS.st.part 0 [0, 1, 2, 3, 4, 5] (by kernel_rfl)) (wp_bind hM) (fun  w hM  hst => s_back hS.ev hst.appF rfl fun hS => ?_) (fun v w hk hst => s_pan (then_pan (blk_pan (then_pan (blk_pan (then_pan (blk_pan (then_pan (⟨hS.ev.defs, hpan _ _ hk hst.appF.frame⟩))))))))))
            replace hS : Ss _ _ _ H [f1130, f1135, f1118, f1237, f1125, f1231] F _ _ := hS
            refine wpList_nil ?_
            refine then_n ?_
            obtain ⟨hk1244, hM⟩ := wp_chk hM
            refine draw_begin (vals := [some (.slice A1228 l_1230.length c1229), some (.slice A1228 l_1230.length c1229), some (.int .i64 (l_1230.length : Int)), some (.int .i64 (w64 ((l_1230.length : Int) - (1 : Int)))), some (slp A1228 (Int.toNat (w64 ((l_1230.length : Int) - (1 : Int))) * 1)), some (.int .i64 (rd l_1230 (w64 ((l_1230.length : Int) - (1 : Int))))), some (ptr b1117 0), none, none, none, none]) hS mixed rfl ?_
            intro l w ho hcl hA hst
            refine phase' (vals := [some (.slice A1228 l_1230.length c1229), some (.slice A1228 l_1230.length c1229), some (.int .i64 (l_1230.length : Int)), some (.int .i64 (w64 ((l_1230.length : Int) - (1 : Int)))), some (slp A1228 (Int.toNat (w64 ((l_1230.length : Int) - (1 : Int))) * 1)), some (.int .i64 (rd l_1230 (w64 ((l_1230.length : Int) - (1 : Int))))), some (ptr b1117 0), none, none, none, none]) 7 [] [0, 1, 2, 3, 4, 5, 6] rfl rfl rfl rfl (by exact ⟨nR rfl rfl rfl rfl rfl (by exact ovE (mv rfl) rfl), nR rfl rfl rfl rfl rfl (by exact ovE (mv rfl) rfl), nR rfl rfl rfl rfl rfl (by exact ovE (lenV rfl Tryd.runUnderlying67) rfl), nR rfl rfl rfl rfl rfl (by exact ovE (bin rfl rfl rfl) rfl), nR rfl rfl rfl rfl rfl (by exact ovE (ixV rfl rfl Tryd.runUnderlying67 Tryd.sizeOf3 (hV1232.rd (i := 5) rfl) (fun _ => rfl) rfl hk1244) rfl), nR rfl rfl rfl rfl rfl (by exact ovE (ldV0 rfl (hV1232.rd (i := 5) rfl) (fun _ => rfl) hk1244 rfl Tryd.isAgg3) rfl), nR rfl rfl rfl rfl rfl (by exact ovE (mv rfl) rfl), trivial⟩) (fun D l a w ho hcl hav hpre hm hE hk hA hst => ?_) ho hcl (fun j hj => (List.not_mem_nil hj).elim) (fun m hm => (List.not_mem_nil hm).elim) List.not_mem_nil hA hst
            have hS := (Ss.mk hE hst).env2 (e' := [(38, ptr b1117 0)]) ⟨rfl, trivial⟩
            refine op_of_nth rfl ?_
            refine s_call hS rfl Tryd.call21 (inflate_reader_number_c hG K (T_inflate_reader.mk (T_bits_Reader.mk (T_bits_place.mk at_1236) r1116.Reader_.text_) r1116.out_ r1116.limit_) (2 : Int) b1117 f1118 b1120 f1237 A1123 c1124 f1125 hB1119 h1238 hV1126 (hS.st.part 3 [2, 3, 4, 0, 1, 5] (by kernel_rfl)) (wp_bind hM) (fun x1245 at_1246 f1247 w hM h1248 hst => s_back hS.ev hst.appF rfl fun hS => ?_) (fun v w hk hst => s_pan (then_pan (blk_pan (then_pan (blk_pan (then_pan (blk_pan (then_pan (⟨hS.ev.defs, hpan _ _ hk hst.appF.frame⟩))))))))))
            replace hS : Ss _ _ _ H [f1118, f1247, f1125, f1130, f1135, f1231] F _ _ := hS
            refine wpList_nil (then_n ?_)
            have hcl2 := hcl.cons (k := 7) (nth_get rfl) hpre
            have hmust := must_cons (k := 7) hm (chain (k := 7) hcl (nth_get rfl) hpre [(6, 7)] [] rfl (fun _ h => absurd h List.not_mem_nil))
            replace hst := hS.st
            obtain ⟨value1249, hz1250⟩ : ∃ x, x = (rd l_1230 (w64 ((l_1230.length : Int) - (1 : Int)))) := ⟨_, rfl⟩
            replace hM := lt_to hz1250 hM
            obtain ⟨times1251, hz1252⟩ : ∃ x, x = (w64 ((3 : Int) + x1245)) := ⟨_, rfl⟩
            replace hM := lt_to hz1252 hM
            have hav2 := hav.cons (vals' := [some (.slice A1228 l_1230.length c1229), some (.slice A1228 l_1230.length c1229), some (.int .i64 (l_1230.length : Int)), some (.int .i64 (w64 ((l_1230.length : Int) - (1 : Int)))), some (slp A1228 (Int.toNat (w64 ((l_1230.length : Int) - (1 : Int))) * 1)), some (.int .i64 (rd l_1230 (w64 ((l_1230.length : Int) - (1 : Int))))), some (ptr b1117 0), some (.int .i64 x1245), some (.int .i64 (w64 ((3 : Int) + x1245))), some (.int .i64 value1249), some (.int .i64 times1251)]) (k := 7) ⟨rfl, rfl, rfl, rfl, rfl, rfl, rfl, trivial⟩ rfl
            replace hA := (hA.next hav (subV.get (l' := [some (.slice A1228 l_1230.length c1229), some (.slice A1228 l_1230.length c1229), some (.int .i64 (l_1230.length : Int)), some (.int .i64 (w64 ((l_1230.length : Int) - (1 : Int)))), some (slp A1228 (Int.toNat (w64 ((l_1230.length : Int) - (1 : Int))) * 1)), some (.int .i64 (rd l_1230 (w64 ((l_1230.length : Int) - (1 : Int))))), some (ptr b1117 0), some (.int .i64 x1245), some (.int .i64 (w64 ((3 : Int) + x1245))), some (.int .i64 value1249), some (.int .i64 times1251)]) ⟨rfl, rfl, rfl, rfl, rfl, rfl, rfl, trivial⟩)).step rfl (nth_get rfl) hk rfl rfl rfl
            clear hm hav
            replace hcl := hcl2
            refine phaseE (vals := [some (.slice A1228 l_1230.length c1229), some (.slice A1228 l_1230.length c1229), some (.int .i64 (l_1230.length : Int)), some (.int .i64 (w64 ((l_1230.length : Int) - (1 : Int)))), some (slp A1228 (Int.toNat (w64 ((l_1230.length : Int) - (1 : Int))) * 1)), some (.int .i64 (rd l_1230 (w64 ((l_1230.length : Int) - (1 : Int))))), some (ptr b1117 0), some (.int .i64 x1245), some (.int .i64 (w64 ((3 : Int) + x1245))), some (.int .i64 value1249), some (.int .i64 times1251)]) [7, 6] [0, 1, 2, 3, 4, 5, 8, 9, 10] rfl rfl rfl (by exact ⟨nR rfl rfl rfl rfl rfl (by exact ovE (mv rfl) rfl), nR rfl rfl rfl rfl rfl (by exact ovE (mv rfl) rfl), nR rfl rfl rfl rfl rfl (by exact ovE (lenV rfl Tryd.runUnderlying67) rfl), nR rfl rfl rfl rfl rfl (by exact ovE (bin rfl rfl rfl) rfl), nR rfl rfl rfl rfl rfl (by exact ovE (ixV rfl rfl Tryd.runUnderlying67 Tryd.sizeOf3 (hV1232.rd (i := 5) rfl) (fun _ => rfl) rfl hk1244) rfl), nR rfl rfl rfl rfl rfl (by exact ovE (ldV0 rfl (hV1232.rd (i := 5) rfl) (fun _ => rfl) hk1244 rfl Tryd.isAgg3) rfl), nR rfl rfl rfl rfl rfl (by exact ovE (bin rfl rfl rfl) rfl), nR rfl rfl rfl rfl rfl (by exact ovE (asg rfl) (congrArg (Value.int .i64) hz1250.symm)), nR rfl rfl rfl rfl rfl (by exact ovE (asg rfl) (congrArg (Value.int .i64) hz1252.symm)), trivial⟩) (fun a w hS => ?_) ho hcl hmust hA hst
            replace hS := hS.env2 (e' := [(0, ptr b1117 0), (1, .int .i64 n_1127), (2, ptr b1129 0), (7, .slice A1228 l_1230.length c1229), (9, .int .i64 value1249), (10, .int .i64 times1251)]) ⟨rfl, rfl, rfl, rfl, rfl, rfl, trivial⟩
            refine blk_n (then_n ?_)
            exact hJ1270 _ _ ⟨at_1246, f1247, value1249, times1251, hS.to [3, 4, 0, 1, 2, 5] (by kernel_rfl) ⟨rfl, rfl, rfl, rfl, rfl, rfl, trivial⟩, h1248, hM⟩
          · refine wp_seq ?_
            refine wp_region_list ?_
            refine st1 hS (mv rfl) rfl fun a w hS => ?_
            refine st1 hS (bin rfl rfl rfl) rfl fun a w hS => ?_
            refine st1x (v := Value.bool) hS (asg rfl) rfl fun v1253 a w hz hS => ?_
            have hM := lt_to hz hM; clear hz
            refine wpList_nil ?_
            refine then_n ?_
            refine s_cond hS rfl hM (fun hb1254 hM => ?_) (fun hb1254 hM => ?_)
            · refine wp_region_list ?_
              refine st1 hS (mv rfl) rfl fun a w hS => ?_
              refine s_call hS rfl Tryd.call21 (inflate_reader_number_c hG K (T_inflate_reader.mk (T_bits_Reader.mk (T_bits_place.mk at_1236) r1116.Reader_.text_) r1116.out_ r1116.limit_) (3 : Int) b1117 f1118 b1120 f1237 A1123 c1124 f1125 hB1119 h1238 hV1126 (hS.st.part 3 [2, 3, 4, 0, 1, 5] (by kernel_rfl)) (wp_bind hM) (fun x1255 at_1256 f1257 w hM h1258 hst => s_back hS.ev hst.appF rfl fun hS => ?_) (fun v w hk hst => s_pan (blk_pan (then_pan (blk_pan (then_pan (blk_pan (then_pan (⟨hS.ev.defs, hpan _ _ hk hst.appF.frame⟩)))))))))
              replace hS : Ss _ _ _ H [f1118, f1257, f1125, f1130, f1135, f1231] F _ _ := hS
              refine st1 hS (bin rfl rfl rfl) rfl fun a w hS => ?_
              refine st1x (v := Value.int .i64) hS (asg rfl) rfl fun times1259 a w hz hS => ?_
              have hM := lt_to hz hM; clear hz
              refine wpList_nil ?_
              refine blk_n (then_n ?_)
              exact hJ1270 _ _ ⟨at_1256, f1257, (0 : Int), times1259, hS.to [3, 4, 0, 1, 2, 5] (by kernel_rfl) ⟨rfl, rfl, rfl, rfl, rfl, rfl, trivial⟩, h1258, hM⟩
            · refine wp_region_list ?_
              refine st1 hS (mv rfl) rfl fun a w hS => ?_
              refine s_call hS rfl Tryd.call21 (inflate_reader_number_c hG K (T_inflate_reader.mk (T_bits_Reader.mk (T_bits_place.mk at_1236) r1116.Reader_.text_) r1116.out_ r1116.limit_) (7 : Int) b1117 f1118 b1120 f1237 A1123 c1124 f1125 hB1119 h1238 hV1126 (hS.st.part 3 [2, 3, 4, 0, 1, 5] (by kernel_rfl)) (wp_bind hM) (fun x1260 at_1261 f1262 w hM h1263 hst => s_back hS.ev hst.appF rfl fun hS => ?_) (fun v w hk hst => s_pan (blk_pan (then_pan (blk_pan (then_pan (blk_pan (then_pan (⟨hS.ev.defs, hpan _ _ hk hst.appF.frame⟩)))))))))
              replace hS : Ss _ _ _ H [f1118, f1262, f1125, f1130, f1135, f1231] F _ _ := hS
              refine st1 hS (bin rfl rfl rfl) rfl fun a w hS => ?_
              refine st1x (v := Value.int .i64) hS (asg rfl) rfl fun times1264 a w hz hS => ?_
              have hM := lt_to hz hM; clear hz
              refine wpList_nil ?_
              refine blk_n (then_n ?_)
              exact hJ1270 _ _ ⟨at_1261, f1262, (0 : Int), times1264, hS.to [3, 4, 0, 1, 2, 5] (by kernel_rfl) ⟨rfl, rfl, rfl, rfl, rfl, rfl, trivial⟩, h1263, hM⟩
      · intro a w hI
        obtain ⟨at_1265, f1266, value1268, times1269, hS, hB1267, hM⟩ := hI
        rw [inflate_reader_row.j2] at hM
        refine wp_seq ?_
        refine wp_region_list ?_
        refine st1 hS (mv rfl) rfl fun a w hS => ?_
        refine st1 hS (mv rfl) rfl fun a w hS => ?_
        refine st1 hS (mv rfl) rfl fun a w hS => ?_
        refine st1 hS (lenV rfl Tryd.runUnderlying67) rfl fun a w hS => ?_
        refine st1 hS (bin rfl rfl rfl) rfl fun a w hS => ?_
        refine st1 hS (bin rfl rfl rfl) rfl fun a w hS => ?_
        refine s_call hS rfl Tryd.call26 (inflate_refuse_c hG K (decide (times1269 > (w64 (n_1127 - (l_1230.length : Int))))) (3 : Int) (hS.st.part 0 [0, 1, 2, 3, 4, 5] (by kernel_rfl)) (wp_bind hM) (fun  w hM  hst => s_back hS.ev hst.appF rfl fun hS => ?_) (fun v w hk hst => s_pan (then_pan (blk_pan (then_pan (blk_pan (then_pan (⟨hS.ev.defs, hpan _ _ hk hst.appF.frame⟩))))))))
        replace hS : Ss _ _ _ H [f1130, f1135, f1118, f1266, f1125, f1231] F _ _ := hS
        refine wpList_nil ?_
        refine then_n ?_
        refine wp_seq ?_
        refine wp_region_list ?_
        refine st1 hS (mv rfl) rfl fun a w hS => ?_
        refine st1 hS (mv rfl) rfl fun a w hS => ?_
        refine wpList_nil ?_
        refine then_n ?_
        refine wp_block ?_
        refine s_loopJ (fun k1296 a w => ∃ (A1290 : Option Addr) (c1291 : Nat) (l_1292 : (List Int)) (f1293 : Frag) (v1295 : Int), Ss 63 [] [(0, ptr b1117 0), (1, .int .i64 n_1127), (2, ptr b1129 0), (7, .slice A1290 l_1292.length c1291), (9, .int .i64 value1268), (54, .int .i64 times1269), (55, .int .i64 v1295)] H [f1130, f1135, f1118, f1266, f1125, f1293] F a w ∧ (Vec 3 (ci .i64) 1 A1290 l_1292 c1291 f1293) ∧ (inflate_reader_row.l3 K (inflate_reader_row.l1 K r1116 n_1127 t1128 k1233) at_1265 value1268 times1269 k1296 l_1292 v1295).wp kr kp) K ?_ ?_ ?_
        · exact ⟨A1228, c1229, l_1230, f1231, (0 : Int), hS.to [0, 1, 2, 3, 4, 5] (by kernel_rfl) ⟨rfl, rfl, rfl, rfl, rfl, rfl, rfl, trivial⟩, hV1232, hM⟩
        · intro a w hI; obtain ⟨_, _, _, _, _, _, _, hM⟩ := hI; exact hM
        · intro k1296 a w hI J1308 hJ1308
          obtain ⟨A1290, c1291, l_1292, f1293, v1295, hS, hV1294, hM⟩ := hI
          rw [inflate_reader_row.l3] at hM
          refine wp_seq ?_
          refine wp_region_list ?_
          refine st1 hS (bin rfl rfl rfl) rfl fun a w hS => ?_
          refine wpList_nil ?_
          refine then_n ?_
          refine wp_seq ?_
          refine s_cond hS rfl hM (fun hb1297 hM => ?_) (fun hb1297 hM => ?_)
          · refine wp_skip ?_
            refine then_n ?_
            refine wp_seq ?_
            refine wp_block ?_
            refine wp_region_list ?_
            refine st1 hS (mv rfl) rfl fun a w hS => ?_
            refine st1 hS (mv rfl) rfl fun a w hS => ?_
            refine bsl (g := (ci .i64)) ([value1268] : List Int) [.int .i64 value1268] hS Tryd.runUnderlying67 Tryd.sizeOf3 X.el3 rfl rfl rfl (by simp [Value.cells]) rfl rfl rfl rfl rfl fun w A1298 c1299 f1300 hV1301 hS => ?_
            obtain ⟨hk1302, hM⟩ := wp_chk hM
            refine apV (ys := ([value1268] : List Int)) 6 hS rfl rfl hV1294 rfl (hV1301.rd (i := 0) rfl) Tryd.runUnderlying67 Tryd.runUnderlying67 X.el3 (fun _ => rfl) rfl one_t3 hk1302 rfl fun zs1307 w A1303 c1304 f1305 hz hV1306 hS => ?_
            have hM := lt_to hz hM; clear hz
            refine st1 hS (asg rfl) rfl fun a w hS => ?_
            refine wpList_nil ?_
            refine blk_n (then_n ?_)
            refine wp_region_list ?_
            refine st1 hS (bin rfl rfl rfl) rfl fun a w hS => ?_
            refine st1 hS (mv rfl) rfl fun a w hS => ?_
            refine wpList_nil ?_
            refine then_n ?_
            exact hJ1308 _ _ ⟨A1303, c1304, zs1307, f1305, (w64 (v1295 + (1 : Int))), hS.to [1, 2, 3, 4, 5, 6] (by kernel_rfl) ⟨rfl, rfl, rfl, rfl, rfl, rfl, rfl, trivial⟩, hV1306, hM⟩
          · refine wp_exit ?_
            refine then_ex (then_ex (blk_same (blk_n (then_n ?_))))
            exact hJ1309 _ _ ⟨at_1265, f1266, A1290, c1291, l_1292, f1293, hS.to [0, 1, 2, 3, 4, 5] (by kernel_rfl) ⟨rfl, rfl, rfl, rfl, trivial⟩, hB1267, hV1294, hM⟩
    · refine wp_exit ?_
      refine then_ex (then_ex (blk_same (then_n ?_)))
      refine wp_seq ?_
      refine wp_region_list ?_
      refine st1 hS (mv rfl) rfl fun a w hS => ?_
      refine st1 hS (asg rfl) rfl fun a w hS => ?_
      refine wpList_nil ?_
      refine then_n ?_
      refine wp_ret ?_
      exact s_ret (rs := [6]) hS rfl rfl (hret A1228 c1229 l_1230 f1231 at_1225 f1226 w hM hV1232 hB1227 (hS.st.pick [5, 0, 1, 2, 3, 4] (by kernel_rfl)))

theorem inflate_reader_dynamic_c {H : Imm} {F : List Frag} {w : World} {R : Ending → World → Prop} {kr : ((Option T_huff_Table) × (Option T_huff_Table) × Int) → Prop} {kp : Value → Prop} (hG : Gl H) (K : Nat) (r1018 : T_inflate_reader) (b1019 : Nat) (f1020 : Frag) (b1022 : Nat) (f1023 : Frag) (A1025 : Option Addr) (c1026 : Nat) (f1027 : Frag) (hB1021 : Blk f1020 b1019 ([ptr b1022 0, .slice A1025 r1018.out_.length c1026, .int .i64 r1018.limit_]) 44) (hB1024 : Blk f1023 b1022 ([.int .i64 r1018.Reader_.place_.at_, str r1018.Reader_.text_]) 57) (hV1028 : Vec 5 (ci .u8) 1 A1025 r1018.out_ c1026 f1027)
    (hS : St w H [f1020, f1023, f1027] F) (hm : (inflate_reader_dynamic.m K r1018).wp kr kp)
    (hret : ∀ (A1349 : Option Addr) (x1350 : Option T_huff_Table) (f1351 : Frag) (A1353 : Option Addr) (x1354 : Option T_huff_Table) (f1355 : Frag) (at_1357 : Int) (f1358 : Frag) (w : World), kr (x1350, x1354, at_1357) → (Opt T_huff_Table.Own A1349 x1350 f1351) → (Opt T_huff_Table.Own A1353 x1354 f1355) → (Blk f1358 b1022 ([.int .i64 at_1357, str r1018.Reader_.text_]) 57) → St w H [f1351, f1355, f1020, f1358, f1027] F → R (.returned (.tuple ⟨[.pointer A1349, .pointer A1353]⟩)) w)
    (hpan : ∀ v w, kp v → St w H [] F → R (.panicked [⟨v, false, false⟩]) w) :
    Calls Tryd.prog 25 ⟨[ptr b1019 0]⟩ w R := by
  refine enter Tryd.func25 rfl Tryd.ntmps25 rfl hS fun a w hS => ?_
  have hM := hm; clear hm
  rw [inflate_reader_dynamic.m] at hM
  refine wp_seq ?_
  refine wp_region_list ?_
  refine st1 hS (asg rfl) rfl fun a w hS => ?_
  refine st1 hS (asg rfl) rfl fun a w hS => ?_
  refine wpList_nil ?_
  refine then_n ?_
  refine wp_seq ?_
  refine wp_region_list ?_
  refine st1 hS (mv rfl) rfl fun a w hS => ?_
  refine s_call hS rfl Tryd.call21 (inflate_reader_number_c hG K r1018 (5 : Int) b1019 f1020 b1022 f1023 A1025 c1026 f1027 hB1021 hB1024 hV1028 (hS.st.part 3 [0, 1, 2] (by kernel_rfl)) (wp_bind hM) (fun x1029 at_1030 f1031 w hM h1032 hst => s_back hS.ev hst.appF rfl fun hS => ?_) (fun v w hk hst => s_pan (then_pan (⟨hS.ev.defs, hpan _ _ hk hst.appF.frame⟩))))
  replace hS : Ss _ _ _ H [f1020, f1031, f1027] F _ _ := hS
  refine st1 hS (bin rfl rfl rfl) rfl fun a w hS => ?_
  refine st1 hS (mv rfl) rfl fun a w hS => ?_
  refine s_call hS rfl Tryd.call21 (inflate_reader_number_c hG K (T_inflate_reader.mk (T_bits_Reader.mk (T_bits_place.mk at_1030) r1018.Reader_.text_) r1018.out_ r1018.limit_) (5 : Int) b1019 f1020 b1022 f1031 A1025 c1026 f1027 hB1021 h1032 hV1028 (hS.st.part 3 [0, 1, 2] (by kernel_rfl)) (wp_bind hM) (fun x1033 at_1034 f1035 w hM h1036 hst => s_back hS.ev hst.appF rfl fun hS => ?_) (fun v w hk hst => s_pan (then_pan (⟨hS.ev.defs, hpan _ _ hk hst.appF.frame⟩))))
  replace hS : Ss _ _ _ H [f1020, f1035, f1027] F _ _ := hS
  refine st1 hS (bin rfl rfl rfl) rfl fun a w hS => ?_
  refine st1x (v := Value.int .i64) hS (asg rfl) rfl fun n_1037 a w hz hS => ?_
  have hM := lt_to hz hM; clear hz
  refine st1x (v := Value.int .i64) hS (asg rfl) rfl fun d1038 a w hz hS => ?_
  have hM := lt_to hz hM; clear hz
  refine wpList_nil ?_
  refine then_n ?_
  refine wp_seq ?_
  refine wp_region_list ?_
  refine st1 hS (mv rfl) rfl fun a w hS => ?_
  refine s_call hS rfl Tryd.call21 (inflate_reader_number_c hG K (T_inflate_reader.mk (T_bits_Reader.mk (T_bits_place.mk at_1034) r1018.Reader_.text_) r1018.out_ r1018.limit_) (4 : Int) b1019 f1020 b1022 f1035 A1025 c1026 f1027 hB1021 h1036 hV1028 (hS.st.part 3 [0, 1, 2] (by kernel_rfl)) (wp_bind hM) (fun x1039 at_1040 f1041 w hM h1042 hst => s_back hS.ev hst.appF rfl fun hS => ?_) (fun v w hk hst => s_pan (then_pan (⟨hS.ev.defs, hpan _ _ hk hst.appF.frame⟩))))
  replace hS : Ss _ _ _ H [f1020, f1041, f1027] F _ _ := hS
  refine st1 hS (bin rfl rfl rfl) rfl fun a w hS => ?_
  refine st1x (v := Value.int .i64) hS (asg rfl) rfl fun some_1043 a w hz hS => ?_
  have hM := lt_to hz hM; clear hz
  refine wpList_nil ?_
  refine then_n ?_
  refine wp_seq ?_
  refine wp_region_list ?_
  refine st1 hS (mv rfl) rfl fun a w hS => ?_
  refine st1 hS (bin rfl rfl rfl) rfl fun a w hS => ?_
  refine st1 hS (mv rfl) rfl fun a w hS => ?_
  refine g_op 2 false 22 (b := (decide (n_1037 > (286 : Int)))) (r := (decide (d1038 > (30 : Int)))) hS rfl rfl rfl rfl rfl rfl rfl (fun hb a w hS K hK => ?_) rfl fun a w hS => ?_
  · refine st1g hS rfl rfl rfl hb (mv rfl) rfl fun a w hS => ?_
    refine st1g hS rfl rfl rfl hb (bin rfl rfl rfl) rfl fun a w hS => ?_
    exact wpList_nil (hK _ _ (hS.up 2 rfl rfl))
  refine s_call hS rfl Tryd.call26 (inflate_refuse_c hG K ((decide (n_1037 > (286 : Int))) || (decide (d1038 > (30 : Int)))) (3 : Int) (hS.st.part 0 [0, 1, 2] (by kernel_rfl)) (wp_bind hM) (fun  w hM  hst => s_back hS.ev hst.appF rfl fun hS => ?_) (fun v w hk hst => s_pan (then_pan (⟨hS.ev.defs, hpan _ _ hk hst.appF.frame⟩))))
  replace hS : Ss _ _ _ H [f1020, f1041, f1027] F _ _ := hS
  refine wpList_nil ?_
  refine then_n ?_
  refine wp_seq ?_
  refine wp_region_list ?_
  refine alc ((List.replicate 19 (0 : Int)).flatMap (ci .i64)) hS Tryd.zeroValue89 rfl rfl fun w b1044 f1045 hB1046 hS => ?_
  refine wpList_nil ?_
  refine then_n ?_
  refine seq_joinJ (fun a w => ∃ (at_1093 : Int) (f1094 : Frag) (l_1096 : (List Int)) (f1098 : Frag), Ss 64 [] [(0, ptr b1019 0), (4, .int .i64 n_1037), (5, .int .i64 d1038), (7, ptr b1044 0)] H [f1020, f1094, f1027, f1098] F a w ∧ (Blk f1094 b1022 ([.int .i64 at_1093, str r1018.Reader_.text_]) 57) ∧ (l_1096.length = 19) ∧ (Blk f1098 b1044 (l_1096.flatMap (ci .i64)) 89) ∧ (inflate_reader_dynamic.j2 K r1018 n_1037 d1038 at_1093 l_1096).wp kr kp) (fun J1100 hJ1100 => ?_) ?_
  · refine wp_seq ?_
    refine wp_region_list ?_
    refine st1 hS (ldGAr rfl hG.g2 (by rfl) Tryd.isAgg89 Tryd.sizeOf89) rfl fun a w hS => ?_
    refine st1 hS (mv rfl) rfl fun a w hS => ?_
    refine wpList_nil ?_
    refine then_n ?_
    refine wp_block ?_
    refine s_loopJ (fun k1078 a w => ∃ (at_1070 : Int) (f1071 : Frag) (l_1073 : (List Int)) (f1075 : Frag) (v1077 : Int), Ss 64 [] [(0, ptr b1019 0), (4, .int .i64 n_1037), (5, .int .i64 d1038), (6, .int .i64 some_1043), (7, ptr b1044 0), (27, .agg ⟨tab_inflate_order.flatMap (ci .i64)⟩), (28, .int .i64 v1077)] H [f1020, f1071, f1027, f1075] F a w ∧ (Blk f1071 b1022 ([.int .i64 at_1070, str r1018.Reader_.text_]) 57) ∧ (l_1073.length = 19) ∧ (Blk f1075 b1044 (l_1073.flatMap (ci .i64)) 89) ∧ (inflate_reader_dynamic.l1 K r1018 n_1037 d1038 some_1043 k1078 at_1070 l_1073 v1077).wp kr kp) K ?_ ?_ ?_
    · exact ⟨at_1040, f1041, (List.replicate 19 (0 : Int)), f1045, (0 : Int), hS.to [1, 2, 3, 0] (by kernel_rfl) ⟨rfl, rfl, rfl, rfl, rfl, rfl, rfl, trivial⟩, h1042, (List.length_replicate ..), hB1046, hM⟩
    · intro a w hI; obtain ⟨_, _, _, _, _, _, _, _, _, hM⟩ := hI; exact hM
    · intro k1078 a w hI J1092 hJ1092
      obtain ⟨at_1070, f1071, l_1073, f1075, v1077, hS, hB1072, hl1074, hB1076, hM⟩ := hI
      rw [inflate_reader_dynamic.l1] at hM
      refine wp_seq ?_
      refine wp_region_list ?_
      refine st1 hS (bin rfl rfl rfl) rfl fun a w hS => ?_
      refine wpList_nil ?_
      refine then_n ?_
      refine wp_seq ?_
      refine s_cond hS rfl hM (fun hb1079 hM => ?_) (fun hb1079 hM => ?_)
      · refine wp_skip ?_
        refine then_n ?_
        refine wp_seq ?_
        refine wp_block ?_
        refine wp_seq ?_
        refine wp_region_list ?_
        refine st1 hS (mv rfl) rfl fun a w hS => ?_
        obtain ⟨hk1080, hM⟩ := wp_chk hM
        refine st1 hS (ixA rfl rfl Tryd.runUnderlying89 Tryd.isAgg3 Tryd.sizeOf3 (fun _ => rfl) tab_inflate_order_len hk1080 rfl) rfl fun a w hS => ?_
        refine st1 hS (asg rfl) rfl fun a w hS => ?_
        refine st1x (v := Value.int .i64) hS (asg rfl) rfl fun s1081 a w hz hS => ?_
        have hM := lt_to hz hM; clear hz
        refine wpList_nil ?_
        refine then_n ?_
        refine wp_seq ?_
        refine wp_region_list ?_
        refine st1 hS (mv rfl) rfl fun a w hS => ?_
        refine st1 hS (mv rfl) rfl fun a w hS => ?_
        refine st1 hS (bin rfl rfl rfl) rfl fun a w hS => ?_
        refine wpList_nil ?_
        refine then_n ?_
        refine s_cond hS rfl hM (fun hb1082 hM => ?_) (fun hb1082 hM => ?_)
        · refine wp_region_list ?_
          refine st1 hS (mv rfl) rfl fun a w hS => ?_
          refine st1 hS (mv rfl) rfl fun a w hS => ?_
          refine s_call hS rfl Tryd.call21 (inflate_reader_number_c hG K (T_inflate_reader.mk (T_bits_Reader.mk (T_bits_place.mk at_1070) r1018.Reader_.text_) r1018.out_ r1018.limit_) (3 : Int) b1019 f1020 b1022 f1071 A1025 c1026 f1027 hB1021 hB1072 hV1028 (hS.st.part 3 [0, 1, 2, 3] (by kernel_rfl)) (wp_bind hM) (fun x1083 at_1084 f1085 w hM h1086 hst => s_back hS.ev hst.appF rfl fun hS => ?_) (fun v w hk hst => s_pan (blk_pan (then_pan (then_pan (blk_pan (then_pan (⟨hS.ev.defs, hpan _ _ hk hst.appF.frame⟩))))))))
          replace hS : Ss _ _ _ H [f1020, f1085, f1027, f1075] F _ _ := hS
          obtain ⟨hk1087, hM⟩ := wp_chk hM
          refine st1 hS (ixB rfl rfl Tryd.runUnderlying89 Tryd.sizeOf3 hk1087) rfl fun a w hS => ?_
          refine stR (xs := l_1073) (g := (ci .i64)) (pre := []) (post := []) 3 (x1083) hS rfl rfl hB1076 rfl (by simp) rfl (fun _ => rfl) (inb_len hl1074 hk1087) rfl Tryd.sizeOf3 (one_t3 _) fun zs1090 w f1088 hz hB1089 hS => ?_
          have hl1091 : zs1090.length = 19 := by rw [hz, List.length_set]; exact hl1074
          have hM := lt_to hz hM; clear hz
          replace hB1089 : Blk f1088 b1044 (zs1090.flatMap (ci .i64)) 89 := by simpa using hB1089
          refine wpList_nil ?_
          refine blk_n (then_n ?_)
          refine wp_region_list ?_
          refine st1 hS (bin rfl rfl rfl) rfl fun a w hS => ?_
          refine st1 hS (mv rfl) rfl fun a w hS => ?_
          refine wpList_nil ?_
          refine then_n ?_
          exact hJ1092 _ _ ⟨at_1084, f1085, zs1090, f1088, (w64 (v1077 + (1 : Int))), hS.to [0, 1, 2, 3] (by kernel_rfl) ⟨rfl, rfl, rfl, rfl, rfl, rfl, rfl, trivial⟩, h1086, hl1091, hB1089, hM⟩
        · refine wp_skip ?_
          refine blk_n (then_n ?_)
          refine wp_region_list ?_
          refine st1 hS (bin rfl rfl rfl) rfl fun a w hS => ?_
          refine st1 hS (mv rfl) rfl fun a w hS => ?_
          refine wpList_nil ?_
          refine then_n ?_
          exact hJ1092 _ _ ⟨at_1070, f1071, l_1073, f1075, (w64 (v1077 + (1 : Int))), hS.to [0, 1, 2, 3] (by kernel_rfl) ⟨rfl, rfl, rfl, rfl, rfl, rfl, rfl, trivial⟩, hB1072, hl1074, hB1076, hM⟩
      · refine wp_exit ?_
        refine then_ex (then_ex (blk_same (then_n ?_)))
        exact hJ1100 _ _ ⟨at_1070, f1071, l_1073, f1075, hS.to [0, 1, 2, 3] (by kernel_rfl) ⟨rfl, rfl, rfl, rfl, trivial⟩, hB1072, hl1074, hB1076, hM⟩
  · intro a w hI
    obtain ⟨at_1093, f1094, l_1096, f1098, hS, hB1095, hl1097, hB1099, hM⟩ := hI
    rw [inflate_reader_dynamic.j2] at hM
    refine wp_seq ?_
    refine wp_region_list ?_
    refine st1 hS (ldAr (xs := l_1096) (g := (ci .i64)) (pre := []) (post := []) 3 rfl hB1099 rfl (by simp) rfl (flat_ln (g := (ci .i64)) (sz := 1) (fun _ => rfl) hl1097) Tryd.isAgg89 Tryd.sizeOf89) rfl fun a w hS => ?_
    refine st1 hS (bldAr (([0, 0, 0, 0, 0, 0, 0, 0, 0, 0, 0, 0, 0, 0, 0, 0, 0, 0, 0] : List Int).flatMap (ci .i64)) Tryd.zeroValue89 Tryd.runUnderlying89 Tryd.sizeOf3 rfl (by kernel_rfl)) rfl fun a w hS => ?_
    refine st1 hS (eqArr rfl rfl Tryd.runUnderlying89 Tryd.runUnderlying3 Tryd.sizeOf3 Tryd.isAgg3 hl1097 rfl Tryd.eqGuardType89 rfl) rfl fun a w hS => ?_
    refine s_call hS rfl Tryd.call26 (inflate_refuse_c hG K (l_1096 == ([0, 0, 0, 0, 0, 0, 0, 0, 0, 0, 0, 0, 0, 0, 0, 0, 0, 0, 0] : List Int)) (3 : Int) (hS.st.part 0 [0, 1, 2, 3] (by kernel_rfl)) (wp_bind hM) (fun  w hM  hst => s_back hS.ev hst.appF rfl fun hS => ?_) (fun v w hk hst => s_pan (then_pan (⟨hS.ev.defs, hpan _ _ hk hst.appF.frame⟩))))
    replace hS : Ss _ _ _ H [f1020, f1094, f1027, f1098] F _ _ := hS
    refine wpList_nil ?_
    refine then_n ?_
    refine wp_seq ?_
    refine wp_region_list ?_
    refine st1 hS (mv rfl) rfl fun a w hS => ?_
    refine st1 hS (mv rfl) rfl fun a w hS => ?_
    refine st1 hS (mv rfl) rfl fun a w hS => ?_
    refine st1 hS (bin rfl rfl rfl) rfl fun a w hS => ?_
    refine st1 hS (slA rfl Tryd.runUnderlying89 Tryd.sizeOf3 hl1097 rfl) rfl fun a w hS => ?_
    refine s_call hS rfl Tryd.call38 (inflate_table_c hG K l_1096 (some ⟨b1044, 0, none⟩) (19) (hB1099.rdF (i := 3) rfl rfl) (Nat.le_of_eq hl1097) (hS.st.part 0 [0, 1, 2, 3] (by kernel_rfl)) (wp_bind hM) (fun A1101 x1102 f1103 w hM h1104 hst => s_back hS.ev hst.appF rfl fun hS => ?_) (fun v w hk hst => s_pan (then_pan (⟨hS.ev.defs, hpan _ _ hk hst.appF.frame⟩))))
    replace hS : Ss _ _ _ H [f1103, f1020, f1094, f1027, f1098] F _ _ := hS
    obtain ⟨x1105, ho1106, hM⟩ := wp_unw hM
    obtain ⟨b1107, hA, hO1115⟩ := h1104.get ho1106
    obtain ⟨f1108, A1111, c1112, f1113, hF, hB1109, hl1110, hV1114⟩ := hO1115
    subst hA; subst hF
    replace hS := hS.front [0, 1, 2, 3, 4] (by kernel_rfl)
    replace hS := hS.splitF
    refine s_call hS rfl Tryd.call39 (inflate_reader_row_c hG K (T_inflate_reader.mk (T_bits_Reader.mk (T_bits_place.mk at_1093) r1018.Reader_.text_) r1018.out_ r1018.limit_) (w64 (n_1037 + d1038)) x1105 b1019 f1020 b1022 f1094 A1025 c1026 f1027 b1107 f1108 A1111 c1112 f1113 hB1021 hB1095 hV1028 hB1109 hl1110 hV1114 (hS.st.part 5 [2, 3, 4, 0, 1, 5] (by kernel_rfl)) (wp_bind hM) (fun A1318 c1319 x1320 f1321 at_1322 f1323 w hM h1324 h1325 hst => s_back hS.ev hst.appF rfl fun hS => ?_) (fun v w hk hst => s_pan (then_pan (⟨hS.ev.defs, hpan _ _ hk hst.appF.frame⟩))))
    replace hS : Ss _ _ _ H [f1321, f1108, f1113, f1020, f1323, f1027, f1098] F _ _ := hS
    refine st1 hS (asg rfl) rfl fun a w hS => ?_
    refine wpList_nil ?_
    refine then_n ?_
    refine wp_seq ?_
    refine wp_region_list ?_
    refine st1 hS (mv rfl) rfl fun a w hS => ?_
    obtain ⟨hk1326, hM⟩ := wp_chk hM
    refine st1 hS (ixV rfl rfl Tryd.runUnderlying67 Tryd.sizeOf3 (h1324.rd (i := 0) rfl) (fun _ => rfl) rfl hk1326) rfl fun a w hS => ?_
    refine st1 hS (ldV0 rfl (h1324.rd (i := 0) rfl) (fun _ => rfl) hk1326 rfl Tryd.isAgg3) rfl fun a w hS => ?_
    refine st1 hS (bin rfl rfl rfl) rfl fun a w hS => ?_
    refine s_call hS rfl Tryd.call26 (inflate_refuse_c hG K ((rd x1320 (256 : Int)) == (0 : Int)) (3 : Int) (hS.st.part 0 [0, 1, 2, 3, 4, 5, 6] (by kernel_rfl)) (wp_bind hM) (fun  w hM  hst => s_back hS.ev hst.appF rfl fun hS => ?_) (fun v w hk hst => s_pan (then_pan (⟨hS.ev.defs, hpan _ _ hk hst.appF.frame⟩))))
    replace hS : Ss _ _ _ H [f1321, f1108, f1113, f1020, f1323, f1027, f1098] F _ _ := hS
    refine wpList_nil ?_
    refine then_n ?_
    refine wp_seq ?_
    obtain ⟨hk1327, hM⟩ := wp_chk hM
    obtain ⟨zs1328, A1329, c1330, hz, hd1331, hc1332, hov1333⟩ := slEx (g := (ci .i64)) (A := A1318) Tryd.prog Tryd.runUnderlying67 Tryd.sizeOf3 (fun _ => rfl) (h1324.cap (fun _ => rfl) rfl) hk1327
    replace hM := lt_to hz hM; clear hz
    obtain ⟨hk1334, hM⟩ := wp_chk hM
    obtain ⟨zs1335, A1336, c1337, hz, hd1338, hc1339, hov1340⟩ := slEx (g := (ci .i64)) (A := A1318) Tryd.prog Tryd.runUnderlying67 Tryd.sizeOf3 (fun _ => rfl) (h1324.cap (fun _ => rfl) rfl) hk1334
    replace hM := lt_to hz hM; clear hz
    refine draw_begin (vals := [some (.slice A1318 x1320.length c1319), some (.int .i64 n_1037), some (.slice A1329 zs1328.length c1330), none, some (.slice A1318 x1320.length c1319), some (.int .i64 n_1037), some (.slice A1336 zs1335.length c1337), none, none, none]) hS mixed rfl ?_
    intro l w ho hcl hA hst
    refine phase' (vals := [some (.slice A1318 x1320.length c1319), some (.int .i64 n_1037), some (.slice A1329 zs1328.length c1330), none, some (.slice A1318 x1320.length c1319), some (.int .i64 n_1037), some (.slice A1336 zs1335.length c1337), none, none, none]) 3 [] [0, 1, 2, 4, 5, 6] rfl rfl rfl rfl (by exact ⟨nR rfl rfl rfl rfl rfl (by exact ovE (mv rfl) rfl), nR rfl rfl rfl rfl rfl (by exact ovE (mv rfl) rfl), nR rfl rfl rfl rfl rfl (by exact ovE (hov1333 rfl lo0 (hiS rfl)) rfl), nR rfl rfl rfl rfl rfl (by exact ovE (mv rfl) rfl), nR rfl rfl rfl rfl rfl (by exact ovE (mv rfl) rfl), nR rfl rfl rfl rfl rfl (by exact ovE (hov1340 rfl (loS rfl) hi0) rfl), trivial⟩) (fun D l a w ho hcl hav hpre hm hE hk hA hst => ?_) ho hcl (fun j hj => (List.not_mem_nil hj).elim) (fun m hm => (List.not_mem_nil hm).elim) List.not_mem_nil hA hst
    have hS := (Ss.mk hE hst).env2 (e' := [(58, .slice A1329 zs1328.length c1330)]) ⟨rfl, trivial⟩
    refine op_of_nth rfl ?_
    refine s_call hS rfl Tryd.call38 (inflate_table_c hG K zs1328 A1329 c1330 (hd1331 _ _ _ (h1324.rdF (i := 0) rfl)) hc1332 (hS.st.part 0 [0, 1, 2, 3, 4, 5, 6] (by kernel_rfl)) (wp_bind hM) (fun A1341 x1342 f1343 w hM h1344 hst => s_back hS.ev hst.appF rfl fun hS => ?_) (fun v w hk hst => s_pan (then_pan (then_pan (⟨hS.ev.defs, hpan _ _ hk hst.appF.frame⟩)))))
    replace hS : Ss _ _ _ H [f1343, f1321, f1108, f1113, f1020, f1323, f1027, f1098] F _ _ := hS
    refine wpList_nil (then_n ?_)
    have hcl2 := hcl.cons (k := 3) (nth_get rfl) hpre
    have hmust := must_cons (k := 3) hm (chain (k := 3) hcl (nth_get rfl) hpre [(2, 3), (0, 2), (1, 2)] [] rfl (fun _ h => absurd h List.not_mem_nil))
    replace hst := hS.st
    have hav2 := hav.cons (vals' := [some (.slice A1318 x1320.length c1319), some (.int .i64 n_1037), some (.slice A1329 zs1328.length c1330), some (.pointer A1341), some (.slice A1318 x1320.length c1319), some (.int .i64 n_1037), some (.slice A1336 zs1335.length c1337), none, none, none]) (k := 3) ⟨rfl, rfl, rfl, rfl, rfl, rfl, trivial⟩ rfl
    replace hA := (hA.next hav (subV.get (l' := [some (.slice A1318 x1320.length c1319), some (.int .i64 n_1037), some (.slice A1329 zs1328.length c1330), some (.pointer A1341), some (.slice A1318 x1320.length c1319), some (.int .i64 n_1037), some (.slice A1336 zs1335.length c1337), none, none, none]) ⟨rfl, rfl, rfl, rfl, rfl, rfl, trivial⟩)).step rfl (nth_get rfl) hk rfl rfl rfl
    clear hm hav
    replace hcl := hcl2
    refine phase' (vals := [some (.slice A1318 x1320.length c1319), some (.int .i64 n_1037), some (.slice A1329 zs1328.length c1330), some (.pointer A1341), some (.slice A1318 x1320.length c1319), some (.int .i64 n_1037), some (.slice A1336 zs1335.length c1337), none, none, none]) 7 [3, 2, 0, 1] [4, 5, 6] rfl rfl rfl rfl (by exact ⟨nR rfl rfl rfl rfl rfl (by exact ovE (mv rfl) rfl), nR rfl rfl rfl rfl rfl (by exact ovE (mv rfl) rfl), nR rfl rfl rfl rfl rfl (by exact ovE (hov1340 rfl (loS rfl) hi0) rfl), trivial⟩) (fun D l a w ho hcl hav hpre hm hE hk hA hst => ?_) ho hcl hav2 hmust (hav2.notin rfl) hA hst
    have hS := (Ss.mk hE hst).env2 (e' := [(62, .slice A1336 zs1335.length c1337)]) ⟨rfl, trivial⟩
    refine op_of_nth rfl ?_
    refine s_call hS rfl Tryd.call38 (inflate_table_c hG K zs1335 A1336 c1337 (hd1338 _ _ _ (h1324.rdF (i := 1) rfl)) hc1339 (hS.st.part 0 [0, 1, 2, 3, 4, 5, 6, 7] (by kernel_rfl)) (wp_bind hM) (fun A1345 x1346 f1347 w hM h1348 hst => s_back hS.ev hst.appF rfl fun hS => ?_) (fun v w hk hst => s_pan (then_pan (then_pan (⟨hS.ev.defs, hpan _ _ hk hst.appF.frame⟩)))))
    replace hS : Ss _ _ _ H [f1347, f1343, f1321, f1108, f1113, f1020, f1323, f1027, f1098] F _ _ := hS
    refine wpList_nil (then_n ?_)
    have hcl2 := hcl.cons (k := 7) (nth_get rfl) hpre
    have hmust := must_cons (k := 7) hm (chain (k := 7) hcl (nth_get rfl) hpre [(3, 7), (6, 7), (2, 3), (4, 6), (5, 6), (0, 2), (1, 2)] [] rfl (fun _ h => absurd h List.not_mem_nil))
    replace hst := hS.st
    have hav2 := hav.cons (vals' := [some (.slice A1318 x1320.length c1319), some (.int .i64 n_1037), some (.slice A1329 zs1328.length c1330), some (.pointer A1341), some (.slice A1318 x1320.length c1319), some (.int .i64 n_1037), some (.slice A1336 zs1335.length c1337), some (.pointer A1345), some (.pointer A1341), some (.pointer A1345)]) (k := 7) ⟨rfl, rfl, rfl, rfl, rfl, rfl, rfl, trivial⟩ rfl
    replace hA := (hA.next hav (subV.get (l' := [some (.slice A1318 x1320.length c1319), some (.int .i64 n_1037), some (.slice A1329 zs1328.length c1330), some (.pointer A1341), some (.slice A1318 x1320.length c1319), some (.int .i64 n_1037), some (.slice A1336 zs1335.length c1337), some (.pointer A1345), some (.pointer A1341), some (.pointer A1345)]) ⟨rfl, rfl, rfl, rfl, rfl, rfl, rfl, trivial⟩)).step rfl (nth_get rfl) hk rfl rfl rfl
    clear hm hav
    replace hcl := hcl2
    refine phaseE (vals := [some (.slice A1318 x1320.length c1319), some (.int .i64 n_1037), some (.slice A1329 zs1328.length c1330), some (.pointer A1341), some (.slice A1318 x1320.length c1319), some (.int .i64 n_1037), some (.slice A1336 zs1335.length c1337), some (.pointer A1345), some (.pointer A1341), some (.pointer A1345)]) [7, 3, 6, 2, 4, 5, 0, 1, 3, 2, 0, 1] [8, 9] rfl rfl rfl (by exact ⟨nR rfl rfl rfl rfl rfl (by exact ovE (asg rfl) rfl), nR rfl rfl rfl rfl rfl (by exact ovE (asg rfl) rfl), trivial⟩) (fun a w hS => ?_) ho hcl hmust hA hst
    replace hS := hS.env2 (e' := [(2, .pointer A1341), (3, .pointer A1345)]) ⟨rfl, rfl, trivial⟩
    refine then_n ?_
    refine wp_ret ?_
    exact s_ret (rs := [2, 3]) hS rfl rfl (hret A1341 x1342 f1343 A1345 x1346 f1347 at_1322 f1323 w hM h1344 h1348 h1325 (hS.st.pick [1, 0, 5, 6, 7] (by kernel_rfl)))

theorem inflate_reader_block_c {H : Imm} {F : List Frag} {w : World} {R : Ending → World → Prop} {kr : (Bool × Int × (List Int)) → Prop} {kp : Value → Prop} (hG : Gl H) (K : Nat) (r51 : T_inflate_reader) (b52 : Nat) (f53 : Frag) (b55 : Nat) (f56 : Frag) (A58 : Option Addr) (c59 : Nat) (f60 : Frag) (hB54 : Blk f53 b52 ([ptr b55 0, .slice A58 r51.out_.length c59, .int .i64 r51.limit_]) 44) (hB57 : Blk f56 b55 ([.int .i64 r51.Reader_.place_.at_, str r51.Reader_.text_]) 57) (hV61 : Vec 5 (ci .u8) 1 A58 r51.out_ c59 f60)
    (hS : St w H [f53, f56, f60] F) (hm : (inflate_reader_block.m K r51).wp kr kp)
    (hret : ∀ (x1403 : Bool) (at_1404 : Int) (f1405 : Frag) (A1407 : Option Addr) (c1408 : Nat) (out1409 : (List Int)) (f1410 : Frag) (f1412 : Frag) (w : World), kr (x1403, at_1404, out1409) → (Blk f1405 b55 ([.int .i64 at_1404, str r51.Reader_.text_]) 57) → (Vec 5 (ci .u8) 1 A1407 out1409 c1408 f1410) → (Blk f1412 b52 ([ptr b55 0, .slice A1407 out1409.length c1408, .int .i64 r51.limit_]) 44) → St w H [f1412, f1405, f1410] F → R (.returned (.bool x1403)) w)
    (hpan : ∀ v w, kp v → St w H [] F → R (.panicked [⟨v, false, false⟩]) w) :
    Calls Tryd.prog 18 ⟨[ptr b52 0]⟩ w R := by
  refine enter Tryd.func18 rfl Tryd.ntmps18 rfl hS fun a w hS => ?_
  have hM := hm; clear hm
  rw [inflate_reader_block.m] at hM
  refine wp_seq ?_
  refine wp_region_list ?_
  refine st1 hS (asg rfl) rfl fun a w hS => ?_
  refine wpList_nil ?_
  refine then_n ?_
  refine wp_seq ?_
  refine wp_region_list ?_
  refine st1 hS (mv rfl) rfl fun a w hS => ?_
  refine s_call hS rfl Tryd.call21 (inflate_reader_number_c hG K r51 (1 : Int) b52 f53 b55 f56 A58 c59 f60 hB54 hB57 hV61 (hS.st.part 3 [0, 1, 2] (by kernel_rfl)) (wp_bind hM) (fun x119 at_120 f121 w hM h122 hst => s_back hS.ev hst.appF rfl fun hS => ?_) (fun v w hk hst => s_pan (then_pan (⟨hS.ev.defs, hpan _ _ hk hst.appF.frame⟩))))
  replace hS : Ss _ _ _ H [f53, f121, f60] F _ _ := hS
  refine st1 hS (bin rfl rfl rfl) rfl fun a w hS => ?_
  refine st1x (v := Value.bool) hS (asg rfl) rfl fun last123 a w hz hS => ?_
  have hM := lt_to hz hM; clear hz
  refine wpList_nil ?_
  refine then_n ?_
  refine wp_seq ?_
  refine wp_seq ?_
  refine wp_region_list ?_
  refine st1 hS (mv rfl) rfl fun a w hS => ?_
  refine s_call hS rfl Tryd.call21 (inflate_reader_number_c hG K (T_inflate_reader.mk (T_bits_Reader.mk (T_bits_place.mk at_120) r51.Reader_.text_) r51.out_ r51.limit_) (2 : Int) b52 f53 b55 f121 A58 c59 f60 hB54 h122 hV61 (hS.st.part 3 [0, 1, 2] (by kernel_rfl)) (wp_bind hM) (fun x124 at_125 f126 w hM h127 hst => s_back hS.ev hst.appF rfl fun hS => ?_) (fun v w hk hst => s_pan (then_pan (then_pan (⟨hS.ev.defs, hpan _ _ hk hst.appF.frame⟩)))))
  replace hS : Ss _ _ _ H [f53, f126, f60] F _ _ := hS
  refine wpList_nil ?_
  refine then_n ?_
  refine wp_block ?_
  refine wp_seq ?_
  refine wp_region_list ?_
  refine st1 hS (bin rfl rfl rfl) rfl fun a w hS => ?_
  refine st1x (v := Value.bool) hS (asg rfl) rfl fun v128 a w hz hS => ?_
  have hM := lt_to hz hM; clear hz
  refine wpList_nil ?_
  refine then_n ?_
  refine s_cond hS rfl hM (fun hb129 hM => ?_) (fun hb129 hM => ?_)
  · refine wp_region_list ?_
    refine st1 hS (mv rfl) rfl fun a w hS => ?_
    refine s_call hS rfl Tryd.call22 (inflate_reader_stored_c hG K (T_inflate_reader.mk (T_bits_Reader.mk (T_bits_place.mk at_125) r51.Reader_.text_) r51.out_ r51.limit_) b52 f53 b55 f126 A58 c59 f60 hB54 h127 hV61 (hS.st.part 3 [0, 1, 2] (by kernel_rfl)) (wp_bind hM) (fun at_214 f215 A216 c217 out218 f219 f220 w hM h221 h222 h223 hst => s_back hS.ev hst.appF rfl fun hS => ?_) (fun v w hk hst => s_pan (blk_pan (then_pan (⟨hS.ev.defs, hpan _ _ hk hst.appF.frame⟩)))))
    replace hS : Ss _ _ _ H [f220, f215, f219] F _ _ := hS
    refine wpList_nil ?_
    refine blk_n (then_n ?_)
    refine wp_seq ?_
    refine wp_region_list ?_
    refine st1 hS (mv rfl) rfl fun a w hS => ?_
    refine st1 hS (asg rfl) rfl fun a w hS => ?_
    refine wpList_nil ?_
    refine then_n ?_
    refine wp_ret ?_
    exact s_ret (rs := [2]) hS rfl rfl (hret last123 at_214 f215 A216 c217 out218 f219 f220 w hM h221 h222 h223 (hS.st.pick [0, 1, 2] (by kernel_rfl)))
  · refine wp_seq ?_
    refine wp_region_list ?_
    refine st1 hS (bin rfl rfl rfl) rfl fun a w hS => ?_
    refine st1x (v := Value.bool) hS (asg rfl) rfl fun v224 a w hz hS => ?_
    have hM := lt_to hz hM; clear hz
    refine wpList_nil ?_
    refine then_n ?_
    refine s_cond hS rfl hM (fun hb225 hM => ?_) (fun hb225 hM => ?_)
    · refine wp_region_list ?_
      refine st1 hS (mv rfl) rfl fun a w hS => ?_
      refine s_call hS rfl Tryd.call24 (inflate_fixed_c hG K  (hS.st.part 0 [0, 1, 2] (by kernel_rfl)) (wp_bind hM) (fun A604 x605 f606 A607 x608 f609 w hM h610 h611 hst => s_back hS.ev hst.appF rfl fun hS => ?_) (fun v w hk hst => s_pan (blk_pan (then_pan (⟨hS.ev.defs, hpan _ _ hk hst.appF.frame⟩)))))
      replace hS : Ss _ _ _ H [f606, f609, f53, f126, f60] F _ _ := hS
      refine st1 hS (ex rfl rfl) rfl fun a w hS => ?_
      refine st1 hS (ex rfl rfl) rfl fun a w hS => ?_
      obtain ⟨x612, ho613, hM⟩ := wp_unw hM
      obtain ⟨b614, hA, hO622⟩ := h610.get ho613
      obtain ⟨f615, A618, c619, f620, hF, hB616, hl617, hV621⟩ := hO622
      subst hA; subst hF
      replace hS := hS.front [0, 1, 2, 3, 4] (by kernel_rfl)
      replace hS := hS.splitF
      obtain ⟨x623, ho624, hM⟩ := wp_unw hM
      obtain ⟨b625, hA, hO633⟩ := h611.get ho624
      obtain ⟨f626, A629, c630, f631, hF, hB627, hl628, hV632⟩ := hO633
      subst hA; subst hF
      replace hS := hS.front [2, 0, 1, 3, 4, 5] (by kernel_rfl)
      replace hS := hS.splitF
      refine s_call hS rfl Tryd.call23 (inflate_reader_symbols_c hG K (T_inflate_reader.mk (T_bits_Reader.mk (T_bits_place.mk at_125) r51.Reader_.text_) r51.out_ r51.limit_) x612 x623 b52 f53 b55 f126 A58 c59 f60 b614 f615 A618 c619 f620 b625 f626 A629 c630 f631 hB54 h127 hV61 hB616 hl617 hV621 hB627 hl628 hV632 (hS.st.part 7 [4, 5, 6, 2, 3, 0, 1] (by kernel_rfl)) (wp_bind hM) (fun at_1006 f1007 A1008 c1009 out1010 f1011 f1012 w hM h1013 h1014 h1015 hst => s_back hS.ev hst.appF rfl fun hS => ?_) (fun v w hk hst => s_pan (blk_pan (then_pan (⟨hS.ev.defs, hpan _ _ hk hst.appF.frame⟩)))))
      replace hS : Ss _ _ _ H [f626, f631, f615, f620, f1012, f1007, f1011] F _ _ := hS
      refine wpList_nil ?_
      refine blk_n (then_n ?_)
      refine wp_seq ?_
      refine wp_region_list ?_
      refine st1 hS (mv rfl) rfl fun a w hS => ?_
      refine st1 hS (asg rfl) rfl fun a w hS => ?_
      refine wpList_nil ?_
      refine then_n ?_
      refine wp_ret ?_
      exact s_ret (rs := [2]) hS rfl rfl (hret last123 at_1006 f1007 A1008 c1009 out1010 f1011 f1012 w hM h1013 h1014 h1015 (hS.st.pick [4, 5, 6] (by kernel_rfl)))
    · refine wp_seq ?_
      refine wp_region_list ?_
      refine st1 hS (bin rfl rfl rfl) rfl fun a w hS => ?_
      refine st1x (v := Value.bool) hS (asg rfl) rfl fun v1016 a w hz hS => ?_
      have hM := lt_to hz hM; clear hz
      refine wpList_nil ?_
      refine then_n ?_
      refine s_cond hS rfl hM (fun hb1017 hM => ?_) (fun hb1017 hM => ?_)
      · refine wp_region_list ?_
        refine st1 hS (mv rfl) rfl fun a w hS => ?_
        refine st1 hS (mv rfl) rfl fun a w hS => ?_
        refine s_call hS rfl Tryd.call25 (inflate_reader_dynamic_c hG K (T_inflate_reader.mk (T_bits_Reader.mk (T_bits_place.mk at_125) r51.Reader_.text_) r51.out_ r51.limit_) b52 f53 b55 f126 A58 c59 f60 hB54 h127 hV61 (hS.st.part 3 [0, 1, 2] (by kernel_rfl)) (wp_bind hM) (fun A1360 x1361 f1362 A1363 x1364 f1365 at_1366 f1367 w hM h1368 h1369 h1370 hst => s_back hS.ev hst.appF rfl fun hS => ?_) (fun v w hk hst => s_pan (blk_pan (then_pan (⟨hS.ev.defs, hpan _ _ hk hst.appF.frame⟩)))))
        replace hS : Ss _ _ _ H [f1362, f1365, f53, f1367, f60] F _ _ := hS
        refine st1 hS (ex rfl rfl) rfl fun a w hS => ?_
        refine st1 hS (ex rfl rfl) rfl fun a w hS => ?_
        obtain ⟨x1371, ho1372, hM⟩ := wp_unw hM
        obtain ⟨b1373, hA, hO1381⟩ := h1368.get ho1372
        obtain ⟨f1374, A1377, c1378, f1379, hF, hB1375, hl1376, hV1380⟩ := hO1381
        subst hA; subst hF
        replace hS := hS.front [0, 1, 2, 3, 4] (by kernel_rfl)
        replace hS := hS.splitF
        obtain ⟨x1382, ho1383, hM⟩ := wp_unw hM
        obtain ⟨b1384, hA, hO1392⟩ := h1369.get ho1383
        obtain ⟨f1385, A1388, c1389, f1390, hF, hB1386, hl1387, hV1391⟩ := hO1392
        subst hA; subst hF
        replace hS := hS.front [2, 0, 1, 3, 4, 5] (by kernel_rfl)
        replace hS := hS.splitF
        refine s_call hS rfl Tryd.call23 (inflate_reader_symbols_c hG K (T_inflate_reader.mk (T_bits_Reader.mk (T_bits_place.mk at_1366) r51.Reader_.text_) r51.out_ r51.limit_) x1371 x1382 b52 f53 b55 f1367 A58 c59 f60 b1373 f1374 A1377 c1378 f1379 b1384 f1385 A1388 c1389 f1390 hB54 h1370 hV61 hB1375 hl1376 hV1380 hB1386 hl1387 hV1391 (hS.st.part 7 [4, 5, 6, 2, 3, 0, 1] (by kernel_rfl)) (wp_bind hM) (fun at_1393 f1394 A1395 c1396 out1397 f1398 f1399 w hM h1400 h1401 h1402 hst => s_back hS.ev hst.appF rfl fun hS => ?_) (fun v w hk hst => s_pan (blk_pan (then_pan (⟨hS.ev.defs, hpan _ _ hk hst.appF.frame⟩)))))
        replace hS : Ss _ _ _ H [f1385, f1390, f1374, f1379, f1399, f1394, f1398] F _ _ := hS
        refine wpList_nil ?_
        refine blk_n (then_n ?_)
        refine wp_seq ?_
        refine wp_region_list ?_
        refine st1 hS (mv rfl) rfl fun a w hS => ?_
        refine st1 hS (asg rfl) rfl fun a w hS => ?_
        refine wpList_nil ?_
        refine then_n ?_
        refine wp_ret ?_
        exact s_ret (rs := [2]) hS rfl rfl (hret last123 at_1393 f1394 A1395 c1396 out1397 f1398 f1399 w hM h1400 h1401 h1402 (hS.st.pick [4, 5, 6] (by kernel_rfl)))
      · refine wp_region_list ?_
        refine s_call hS rfl Tryd.call26 (inflate_refuse_c hG K true (3 : Int) (hS.st.part 0 [0, 1, 2] (by kernel_rfl)) (wp_bind hM) (fun  w hM  hst => s_back hS.ev hst.appF rfl fun hS => ?_) (fun v w hk hst => s_pan (blk_pan (then_pan (⟨hS.ev.defs, hpan _ _ hk hst.appF.frame⟩)))))
        replace hS : Ss _ _ _ H [f53, f126, f60] F _ _ := hS
        refine wpList_nil ?_
        refine blk_n (then_n ?_)
        refine wp_seq ?_
        refine wp_region_list ?_
        refine st1 hS (mv rfl) rfl fun a w hS => ?_
        refine st1 hS (asg rfl) rfl fun a w hS => ?_
        refine wpList_nil ?_
        refine then_n ?_
        refine wp_ret ?_
        exact s_ret (rs := [2]) hS rfl rfl (hret last123 at_125 f126 A58 c59 r51.out_ f60 f53 w hM h127 hV61 hB54 (hS.st.pick [0, 1, 2] (by kernel_rfl)))

theorem bits_Reader_At_c {H : Imm} {F : List Frag} {w : World} {R : Ending → World → Prop} {kr : Unit → Prop} {kp : Value → Prop} (hG : Gl H) (K : Nat) (r1471 : T_bits_Reader) (b1472 : Nat) (f1473 : Frag) (hB1474 : Blk f1473 b1472 ([.int .i64 r1471.place_.at_, str r1471.text_]) 57)
    (hS : St w H [f1473] F) (hm : (bits_Reader_At.m K r1471).wp kr kp)
    (hret : ∀ (w : World), kr () → St w H [f1473] F → R (.returned (.int .i64 r1471.place_.at_)) w) :
    Calls Tryd.prog 19 ⟨[ptr b1472 0]⟩ w R := by
  refine enter Tryd.func19 rfl Tryd.ntmps19 rfl hS fun a w hS => ?_
  have hM := hm; clear hm
  rw [bits_Reader_At.m] at hM
  refine wp_seq ?_
  refine wp_region_list ?_
  refine st1 hS (asg rfl) rfl fun a w hS => ?_
  refine wpList_nil ?_
  refine then_n ?_
  refine wp_seq ?_
  refine wp_seq ?_
  refine wp_region_list ?_
  refine st1 hS (mv rfl) rfl fun a w hS => ?_
  refine st1 hS (eqNil rfl rfl Tryd.runUnderlying41) rfl fun a w hS => ?_
  refine wpList_nil ?_
  refine then_n ?_
  refine s_condF hS rfl ?_
  refine wp_skip ?_
  refine then_n ?_
  refine wp_seq ?_
  refine wp_region_list ?_
  refine st1 hS (mv rfl) rfl fun a w hS => ?_
  refine st1 hS (nck rfl) rfl fun a w hS => ?_
  refine st1 hS (fad rfl Tryd.runUnderlying57 rfl Tryd.sizeOf55 rfl) rfl fun a w hS => ?_
  refine st1 hS (fad rfl Tryd.runUnderlying55 rfl Tryd.sizeOf3 rfl) rfl fun a w hS => ?_
  refine st1 hS (ldb 0 rfl hB1474 rfl rfl Tryd.isAgg3) rfl fun a w hS => ?_
  refine st1 hS (asg rfl) rfl fun a w hS => ?_
  refine wpList_nil ?_
  refine then_n ?_
  refine wp_ret ?_
  exact s_ret (rs := [2]) hS rfl rfl (hret w hM (hS.st.pick [0] (by kernel_rfl)))
end Go.TrydS
