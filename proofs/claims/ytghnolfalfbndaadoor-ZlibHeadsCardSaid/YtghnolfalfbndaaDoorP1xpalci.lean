/- Printed by a program of mine: each Go function answers what its model answers; conditions: what each theorem asks of memory. -/
import Derived.Test.YtghnolfalfbndaaDoorMiklkk
import Derived.Test.YtghnolfalfbndaaDoorChecked
set_option linter.unusedVariables false
set_option linter.unusedSimpArgs false
namespace Go.TrydS
open Go Go.Sl Go.Mo Go.Proofs
theorem mixed : Tryd.prog.follows .mixedOrders = true := by kernel_rfl
def _root_.Go.Mo.T_win_Window.cells (x : T_win_Window) : List Value := [str x.text_, .int .i64 x.base_]
def _root_.Go.Mo.T_bits_place.cells (x : T_bits_place) : List Value := [.int .i64 x.at_]
def _root_.Go.Mo.T_bits_Reader.cells (x : T_bits_Reader) : List Value := [.int .i64 x.place_.at_, str x.text_]
def _root_.Go.Mo.T_inflate_run.cells (x : T_inflate_run) : List Value := [.int .i64 x.from_, .int .i64 x.bits_]
def _root_.Go.Mo.T_mortiseref05_Reader.cells (x : T_mortiseref05_Reader) : List Value := [str x.S_, .int .i64 x.At_]
theorem X.el3 : El Tryd.prog 3 1 8 := ⟨_, _, Tryd.typeInfo3, rfl, rfl, rfl, rfl⟩
theorem X.el5 : El Tryd.prog 5 1 1 := ⟨_, _, Tryd.typeInfo5, rfl, rfl, rfl, rfl⟩
theorem one_t3 : ∀ x, ∀ u ∈ (ci .i64) x, u.oneCell' = true := fun x u hu => by cases hu with | head => rfl | tail _ h => cases h
theorem one_t5 : ∀ x, ∀ u ∈ (ci .u8) x, u.oneCell' = true := fun x u hu => by cases hu with | head => rfl | tail _ h => cases h
structure Gl (H : Imm) : Prop where
  g0 : ∃ T fr, H 0 = some (.cells ⟨tab_inflate_lengths.flatMap T_inflate_run.cells⟩ T fr)
  g1 : ∃ T fr, H 1 = some (.cells ⟨tab_inflate_distances.flatMap T_inflate_run.cells⟩ T fr)
  g2 : ∃ T fr, H 2 = some (.cells ⟨tab_inflate_order.flatMap (ci .i64)⟩ T fr)

theorem win_Of_c {H : Imm} {F : List Frag} {w : World} {R : Ending → World → Prop} {kr : Unit → Prop} {kp : Value → Prop} (hG : Gl H) (K : Nat) (s7 : List UInt8)
    (hS : St w H [] F) (hm : (win_Of.m K s7).wp kr kp)
    (hret : ∀ (w : World), kr () → St w H [] F → R (.returned (.agg ⟨[str s7, .int .i64 (0 : Int)]⟩)) w) :
    Calls Tryd.prog 9 ⟨[str s7]⟩ w R := by
  refine enter Tryd.func9 rfl Tryd.ntmps9 rfl hS fun a w hS => ?_
  have hM := hm; clear hm
  rw [win_Of.m] at hM
  refine wp_seq ?_
  refine wp_region_list ?_
  refine alc ([str ([] : List UInt8), .int .i64 (0 : Int)]) hS Tryd.zeroValue33 rfl rfl fun w b8 f9 hB10 hS => ?_
  refine wpList_nil ?_
  refine then_n ?_
  refine wp_seq ?_
  refine wp_region_list ?_
  refine st1 hS (mv rfl) rfl fun a w hS => ?_
  refine st1 hS (bld ([str s7, .int .i64 (0 : Int)]) [(0, 1), (1, 1)] Tryd.zeroValue33 Tryd.runUnderlying33 (by intro w; simp [Tryd.sizeOf3, Tryd.sizeOf9]) rfl rfl) rfl fun a w hS => ?_
  refine stB 0 ([str s7, .int .i64 (0 : Int)]) ([str s7, .int .i64 (0 : Int)]) hS rfl rfl hB10 rfl rfl Tryd.sizeOf33 (by simp [Value.oneCell']) (Nat.le_of_ble_eq_true rfl) rfl fun w f11 hB12 hS => ?_
  refine wpList_nil ?_
  refine then_n ?_
  refine wp_ret ?_
  exact s_retC (vs := [.agg ⟨[str s7, .int .i64 (0 : Int)]⟩]) hS rfl (by exact ⟨rvA 0 ([str s7, .int .i64 (0 : Int)]) rfl hB12 rfl rfl rfl Tryd.isAgg33 Tryd.sizeOf33, trivial⟩) (hret w hM (hS.st.pick [] (by kernel_rfl)))

theorem win_isWidth_c {H : Imm} {F : List Frag} {w : World} {R : Ending → World → Prop} {kr : Bool → Prop} {kp : Value → Prop} (hG : Gl H) (K : Nat) (n_19 : Int)
    (hS : St w H [] F) (hm : (win_isWidth.m K n_19).wp kr kp)
    (hret : ∀ (x21 : Bool) (w : World), kr x21 → St w H [] F → R (.returned (.bool x21)) w) :
    Calls Tryd.prog 15 ⟨[.int .i64 n_19]⟩ w R := by
  refine enter Tryd.func15 rfl Tryd.ntmps15 rfl hS fun a w hS => ?_
  have hM := hm; clear hm
  rw [win_isWidth.m] at hM
  refine wp_seq ?_
  refine wp_region_list ?_
  refine st1 hS (asg rfl) rfl fun a w hS => ?_
  refine wpList_nil ?_
  refine then_n ?_
  refine wp_seq ?_
  refine wp_region_list ?_
  refine st1 hS (mv rfl) rfl fun a w hS => ?_
  refine st1 hS (bin rfl rfl rfl) rfl fun a w hS => ?_
  refine st1 hS (mv rfl) rfl fun a w hS => ?_
  refine g_op 2 true 5 (b := (decide (n_19 > (0 : Int)))) (r := (decide (n_19 ≤ (8 : Int)))) hS rfl rfl rfl rfl rfl rfl rfl (fun hb a w hS K hK => ?_) rfl fun a w hS => ?_
  · refine st1g hS rfl rfl rfl hb (mv rfl) rfl fun a w hS => ?_
    refine st1g hS rfl rfl rfl hb (bin rfl rfl rfl) rfl fun a w hS => ?_
    exact wpList_nil (hK _ _ (hS.up 2 rfl rfl))
  refine st1 hS (mv rfl) rfl fun a w hS => ?_
  refine g_op 5 true 9 (b := ((decide (n_19 > (0 : Int))) && (decide (n_19 ≤ (8 : Int))))) (r := ((iand .i64 n_19 (w64 (n_19 - (1 : Int)))) == (0 : Int))) hS rfl rfl rfl rfl rfl rfl rfl (fun hb a w hS K hK => ?_) rfl fun a w hS => ?_
  · refine st1g hS rfl rfl rfl hb (mv rfl) rfl fun a w hS => ?_
    refine st1g hS rfl rfl rfl hb (mv rfl) rfl fun a w hS => ?_
    refine st1g hS rfl rfl rfl hb (bin rfl rfl rfl) rfl fun a w hS => ?_
    refine st1g hS rfl rfl rfl hb (bin rfl rfl rfl) rfl fun a w hS => ?_
    refine st1g hS rfl rfl rfl hb (bin rfl rfl rfl) rfl fun a w hS => ?_
    exact wpList_nil (hK _ _ (hS.up 5 rfl rfl))
  refine st1x (v := Value.bool) hS (asg rfl) rfl fun v20 a w hz hS => ?_
  have hM := lt_to hz hM; clear hz
  refine wpList_nil ?_
  refine then_n ?_
  refine wp_ret ?_
  exact s_ret (rs := [2]) hS rfl rfl (hret v20 w hM (hS.st.pick [] (by kernel_rfl)))

theorem win_Window_Sub_c {H : Imm} {F : List Frag} {w : World} {R : Ending → World → Prop} {kr : ((List UInt8) × Int × Int) → Prop} {kp : Value → Prop} (hG : Gl H) (K : Nat) (w_24 : T_win_Window) (at_25 : Int) (n_26 : Int)
    (hS : St w H [] F) (hm : (win_Window_Sub.m K w_24 at_25 n_26).wp kr kp)
    (hret : ∀ (text43 : List UInt8) (base44 : Int) (x45 : Int) (w : World), kr (text43, base44, x45) → St w H [] F → R (.returned (.tuple ⟨[.agg ⟨[str text43, .int .i64 base44]⟩, .int .i64 x45]⟩)) w) :
    Calls Tryd.prog 16 ⟨[.agg ⟨[str w_24.text_, .int .i64 w_24.base_]⟩, .int .i64 at_25, .int .i64 n_26]⟩ w R := by
  refine enter Tryd.func16 rfl Tryd.ntmps16 rfl hS fun a w hS => ?_
  have hM := hm; clear hm
  rw [win_Window_Sub.m] at hM
  refine wp_seq ?_
  refine wp_region_list ?_
  refine bx ([str w_24.text_, .int .i64 w_24.base_]) hS rfl rfl rfl fun w b27 f28 hB29 hS => ?_
  refine alc ([str ([] : List UInt8), .int .i64 (0 : Int)]) hS Tryd.zeroValue33 rfl rfl fun w b30 f31 hB32 hS => ?_
  refine st1 hS (asg rfl) rfl fun a w hS => ?_
  refine wpList_nil ?_
  refine then_n ?_
  refine wp_seq ?_
  refine wp_seq ?_
  refine wp_region_list ?_
  refine st1 hS (mv rfl) rfl fun a w hS => ?_
  refine st1 hS (bin rfl rfl rfl) rfl fun a w hS => ?_
  refine st1 hS (mv rfl) rfl fun a w hS => ?_
  refine g_op 2 false 10 (b := (decide (at_25 < (0 : Int)))) (r := (decide (n_26 < (0 : Int)))) hS rfl rfl rfl rfl rfl rfl rfl (fun hb a w hS K hK => ?_) rfl fun a w hS => ?_
  · refine st1g hS rfl rfl rfl hb (mv rfl) rfl fun a w hS => ?_
    refine st1g hS rfl rfl rfl hb (bin rfl rfl rfl) rfl fun a w hS => ?_
    exact wpList_nil (hK _ _ (hS.up 2 rfl rfl))
  refine wpList_nil ?_
  refine then_n ?_
  refine s_cond hS rfl hM (fun hb33 hM => ?_) (fun hb33 hM => ?_)
  · refine wp_seq ?_
    refine wp_region_list ?_
    refine st1 hS (bld ([str ([] : List UInt8), .int .i64 (0 : Int)]) [(0, 1), (1, 1)] Tryd.zeroValue33 Tryd.runUnderlying33 (by intro w; simp [Tryd.sizeOf3, Tryd.sizeOf9]) rfl rfl) rfl fun a w hS => ?_
    refine stB 0 ([str ([] : List UInt8), .int .i64 (0 : Int)]) ([str ([] : List UInt8), .int .i64 (0 : Int)]) hS rfl rfl hB32 rfl rfl Tryd.sizeOf33 (by simp [Value.oneCell']) (Nat.le_of_ble_eq_true rfl) rfl fun w f34 hB35 hS => ?_
    refine st1 hS (asg rfl) rfl fun a w hS => ?_
    refine wpList_nil ?_
    refine then_n ?_
    refine wp_ret ?_
    refine then_ret ?_
    exact s_retC (vs := [.agg ⟨[str ([] : List UInt8), .int .i64 (0 : Int)]⟩, .int .i64 (1 : Int)]) hS rfl (by exact ⟨rvA 0 ([str ([] : List UInt8), .int .i64 (0 : Int)]) rfl hB35 rfl rfl rfl Tryd.isAgg33 Tryd.sizeOf33, rvT rfl, trivial⟩) (hret ([] : List UInt8) (0 : Int) (1 : Int) w hM (hS.st.pick [] (by kernel_rfl)))
  · refine wp_skip ?_
    refine then_n ?_
    refine wp_seq ?_
    refine wp_seq ?_
    refine wp_region_list ?_
    refine st1 hS (mv rfl) rfl fun a w hS => ?_
    refine st1 hS (fad rfl Tryd.runUnderlying33 rfl Tryd.sizeOf9 rfl) rfl fun a w hS => ?_
    refine st1 hS (ldb 1 rfl hB29 rfl rfl Tryd.isAgg9) rfl fun a w hS => ?_
    refine st1 hS (lenS rfl Tryd.runUnderlying9) rfl fun a w hS => ?_
    refine st1 hS (bin rfl rfl rfl) rfl fun a w hS => ?_
    refine st1 hS (mv rfl) rfl fun a w hS => ?_
    refine g_op 7 false 20 (b := (decide (at_25 > (w_24.text_.length : Int)))) (r := (decide (n_26 > (w64 ((w_24.text_.length : Int) - at_25))))) hS rfl rfl rfl rfl rfl rfl rfl (fun hb a w hS K hK => ?_) rfl fun a w hS => ?_
    · refine st1g hS rfl rfl rfl hb (mv rfl) rfl fun a w hS => ?_
      refine st1g hS rfl rfl rfl hb (fad rfl Tryd.runUnderlying33 rfl Tryd.sizeOf9 rfl) rfl fun a w hS => ?_
      refine st1g hS rfl rfl rfl hb (ldb 1 rfl hB29 rfl rfl Tryd.isAgg9) rfl fun a w hS => ?_
      refine st1g hS rfl rfl rfl hb (lenS rfl Tryd.runUnderlying9) rfl fun a w hS => ?_
      refine st1g hS rfl rfl rfl hb (mv rfl) rfl fun a w hS => ?_
      refine st1g hS rfl rfl rfl hb (bin rfl rfl rfl) rfl fun a w hS => ?_
      refine st1g hS rfl rfl rfl hb (bin rfl rfl rfl) rfl fun a w hS => ?_
      exact wpList_nil (hK _ _ (hS.up 7 rfl rfl))
    refine wpList_nil ?_
    refine then_n ?_
    refine s_cond hS rfl hM (fun hb36 hM => ?_) (fun hb36 hM => ?_)
    · refine wp_seq ?_
      refine wp_region_list ?_
      refine st1 hS (bld ([str ([] : List UInt8), .int .i64 (0 : Int)]) [(0, 1), (1, 1)] Tryd.zeroValue33 Tryd.runUnderlying33 (by intro w; simp [Tryd.sizeOf3, Tryd.sizeOf9]) rfl rfl) rfl fun a w hS => ?_
      refine stB 0 ([str ([] : List UInt8), .int .i64 (0 : Int)]) ([str ([] : List UInt8), .int .i64 (0 : Int)]) hS rfl rfl hB32 rfl rfl Tryd.sizeOf33 (by simp [Value.oneCell']) (Nat.le_of_ble_eq_true rfl) rfl fun w f37 hB38 hS => ?_
      refine st1 hS (asg rfl) rfl fun a w hS => ?_
      refine wpList_nil ?_
      refine then_n ?_
      refine wp_ret ?_
      refine then_ret ?_
      exact s_retC (vs := [.agg ⟨[str ([] : List UInt8), .int .i64 (0 : Int)]⟩, .int .i64 (2 : Int)]) hS rfl (by exact ⟨rvA 0 ([str ([] : List UInt8), .int .i64 (0 : Int)]) rfl hB38 rfl rfl rfl Tryd.isAgg33 Tryd.sizeOf33, rvT rfl, trivial⟩) (hret ([] : List UInt8) (0 : Int) (2 : Int) w hM (hS.st.pick [] (by kernel_rfl)))
    · refine wp_skip ?_
      refine then_n ?_
      refine wp_seq ?_
      obtain ⟨hk40, hM⟩ := wp_chk hM
      refine draw_begin (vals := [some (ptr b27 0), some (str w_24.text_), some (.int .i64 at_25), some (.int .i64 at_25), some (.int .i64 n_26), some (.int .i64 (w64 (at_25 + n_26))), some (str (sub w_24.text_ at_25 (w64 (at_25 + n_26)))), some (ptr b27 1), some (.int .i64 w_24.base_), some (.int .i64 at_25), some (.int .i64 (w64 (w_24.base_ + at_25))), some (.agg ⟨[str (sub w_24.text_ at_25 (w64 (at_25 + n_26))), .int .i64 (w64 (w_24.base_ + at_25))]⟩), none, none]) hS mixed rfl ?_
      intro l w ho hcl hA hst
      refine phase' (vals := [some (ptr b27 0), some (str w_24.text_), some (.int .i64 at_25), some (.int .i64 at_25), some (.int .i64 n_26), some (.int .i64 (w64 (at_25 + n_26))), some (str (sub w_24.text_ at_25 (w64 (at_25 + n_26)))), some (ptr b27 1), some (.int .i64 w_24.base_), some (.int .i64 at_25), some (.int .i64 (w64 (w_24.base_ + at_25))), some (.agg ⟨[str (sub w_24.text_ at_25 (w64 (at_25 + n_26))), .int .i64 (w64 (w_24.base_ + at_25))]⟩), none, none]) 12 [] [0, 1, 2, 3, 4, 5, 6, 7, 8, 9, 10, 11] rfl rfl rfl rfl (by exact ⟨nR rfl rfl rfl rfl rfl (by exact ovE (fad rfl Tryd.runUnderlying33 rfl Tryd.sizeOf9 rfl) rfl), nR rfl rfl rfl rfl rfl (by exact ovE (ldb 1 rfl hB29 rfl rfl Tryd.isAgg9) rfl), nR rfl rfl rfl rfl rfl (by exact ovE (mv rfl) rfl), nR rfl rfl rfl rfl rfl (by exact ovE (mv rfl) rfl), nR rfl rfl rfl rfl rfl (by exact ovE (mv rfl) rfl), nR rfl rfl rfl rfl rfl (by exact ovE (bin rfl rfl rfl) rfl), nR rfl rfl rfl rfl rfl (by exact ovE (slS rfl Tryd.runUnderlying9 (loS rfl) (hiS rfl) hk40) rfl), nR rfl rfl rfl rfl rfl (by exact ovE (fad rfl Tryd.runUnderlying33 rfl Tryd.sizeOf3 rfl) rfl), nR rfl rfl rfl rfl rfl (by exact ovE (ldb 1 rfl hB29 rfl rfl Tryd.isAgg3) rfl), nR rfl rfl rfl rfl rfl (by exact ovE (mv rfl) rfl), nR rfl rfl rfl rfl rfl (by exact ovE (bin rfl rfl rfl) rfl), nR rfl rfl rfl rfl rfl (by exact ovE (bld ([str (sub w_24.text_ at_25 (w64 (at_25 + n_26))), .int .i64 (w64 (w_24.base_ + at_25))]) [(0, 1), (1, 1)] Tryd.zeroValue33 Tryd.runUnderlying33 (by intro w; simp [Tryd.sizeOf3, Tryd.sizeOf9]) rfl rfl) rfl), trivial⟩) (fun D l a w ho hcl hav hpre hm hE hk hA hst => ?_) ho hcl (fun j hj => (List.not_mem_nil hj).elim) (fun m hm => (List.not_mem_nil hm).elim) List.not_mem_nil hA hst
      have hS := (Ss.mk hE hst).env2 (e' := [(6, ptr b30 0), (41, .agg ⟨[str (sub w_24.text_ at_25 (w64 (at_25 + n_26))), .int .i64 (w64 (w_24.base_ + at_25))]⟩)]) ⟨rfl, rfl, trivial⟩
      refine op_of_nth rfl ?_
      refine stB 0 ([str (sub w_24.text_ at_25 (w64 (at_25 + n_26))), .int .i64 (w64 (w_24.base_ + at_25))]) ([str (sub w_24.text_ at_25 (w64 (at_25 + n_26))), .int .i64 (w64 (w_24.base_ + at_25))]) hS rfl rfl hB32 rfl rfl Tryd.sizeOf33 (by simp [Value.oneCell']) (Nat.le_of_ble_eq_true rfl) rfl fun w f41 hB42 hS => ?_
      refine wpList_nil (then_n ?_)
      have hcl2 := hcl.cons (k := 12) (nth_get rfl) hpre
      have hmust := must_cons (k := 12) hm (chain (k := 12) hcl (nth_get rfl) hpre [(0, 12), (1, 12), (2, 12), (3, 12), (4, 12), (5, 12), (6, 12), (7, 12), (8, 12), (9, 12), (10, 12), (11, 12)] [] rfl (fun _ h => absurd h List.not_mem_nil))
      replace hst := hS.st
      have hav2 := hav.cons (vals' := [some (ptr b27 0), some (str w_24.text_), some (.int .i64 at_25), some (.int .i64 at_25), some (.int .i64 n_26), some (.int .i64 (w64 (at_25 + n_26))), some (str (sub w_24.text_ at_25 (w64 (at_25 + n_26)))), some (ptr b27 1), some (.int .i64 w_24.base_), some (.int .i64 at_25), some (.int .i64 (w64 (w_24.base_ + at_25))), some (.agg ⟨[str (sub w_24.text_ at_25 (w64 (at_25 + n_26))), .int .i64 (w64 (w_24.base_ + at_25))]⟩), some undef, some (.int .i64 (0 : Int))]) (k := 12) ⟨rfl, rfl, rfl, rfl, rfl, rfl, rfl, rfl, rfl, rfl, rfl, rfl, trivial⟩ rfl
      replace hA := (hA.next hav (subV.get (l' := [some (ptr b27 0), some (str w_24.text_), some (.int .i64 at_25), some (.int .i64 at_25), some (.int .i64 n_26), some (.int .i64 (w64 (at_25 + n_26))), some (str (sub w_24.text_ at_25 (w64 (at_25 + n_26)))), some (ptr b27 1), some (.int .i64 w_24.base_), some (.int .i64 at_25), some (.int .i64 (w64 (w_24.base_ + at_25))), some (.agg ⟨[str (sub w_24.text_ at_25 (w64 (at_25 + n_26))), .int .i64 (w64 (w_24.base_ + at_25))]⟩), some undef, some (.int .i64 (0 : Int))]) ⟨rfl, rfl, rfl, rfl, rfl, rfl, rfl, rfl, rfl, rfl, rfl, rfl, trivial⟩)).stepN (i := 12) (nth_get rfl) rfl
      clear hm hav
      replace hcl := hcl2
      refine phaseE (vals := [some (ptr b27 0), some (str w_24.text_), some (.int .i64 at_25), some (.int .i64 at_25), some (.int .i64 n_26), some (.int .i64 (w64 (at_25 + n_26))), some (str (sub w_24.text_ at_25 (w64 (at_25 + n_26)))), some (ptr b27 1), some (.int .i64 w_24.base_), some (.int .i64 at_25), some (.int .i64 (w64 (w_24.base_ + at_25))), some (.agg ⟨[str (sub w_24.text_ at_25 (w64 (at_25 + n_26))), .int .i64 (w64 (w_24.base_ + at_25))]⟩), some undef, some (.int .i64 (0 : Int))]) [12, 0, 1, 2, 3, 4, 5, 6, 7, 8, 9, 10, 11] [13] rfl rfl rfl (by exact ⟨nR rfl rfl rfl rfl rfl (by exact ovE (asg rfl) rfl), trivial⟩) (fun a w hS => ?_) ho hcl hmust hA hst
      replace hS := hS.env2 (e' := [(6, ptr b30 0), (7, .int .i64 (0 : Int))]) ⟨rfl, rfl, trivial⟩
      refine then_n ?_
      refine wp_ret ?_
      exact s_retC (vs := [.agg ⟨[str (sub w_24.text_ at_25 (w64 (at_25 + n_26))), .int .i64 (w64 (w_24.base_ + at_25))]⟩, .int .i64 (0 : Int)]) hS rfl (by exact ⟨rvA 0 ([str (sub w_24.text_ at_25 (w64 (at_25 + n_26))), .int .i64 (w64 (w_24.base_ + at_25))]) rfl hB42 rfl rfl rfl Tryd.isAgg33 Tryd.sizeOf33, rvT rfl, trivial⟩) (hret (sub w_24.text_ at_25 (w64 (at_25 + n_26))) (w64 (w_24.base_ + at_25)) (0 : Int) w hM (hS.st.pick [] (by kernel_rfl)))

theorem win_order_true_c {H : Imm} {F : List Frag} {w : World} {R : Ending → World → Prop} {kr : Unit → Prop} {kp : Value → Prop} (hG : Gl H) (K : Nat) (width55 : Int)
    (hS : St w H [] F) (hm : (win_order_true.m K width55).wp kr kp)
    (hret : ∀ (b59 : Nat) (f60 : Frag) (w : World), kr () → (Blk f60 b59 ([.int .i64 width55]) 3) → St w H [f60] F → R (.returned (fnv 25 [] [ptr b59 0])) w) :
    Calls Tryd.prog 17 ⟨[.int .i64 width55, .bool true]⟩ w R := by
  refine enter Tryd.func17 rfl Tryd.ntmps17 rfl hS fun a w hS => ?_
  have hM := hm; clear hm
  rw [win_order_true.m] at hM
  refine wp_seq ?_
  refine wp_region_list ?_
  refine bx ([.int .i64 width55]) hS rfl rfl rfl fun w b56 f57 hB58 hS => ?_
  refine st1 hS (asg rfl) rfl fun a w hS => ?_
  refine wpList_nil ?_
  refine then_n ?_
  refine wp_seq ?_
  refine wp_seq ?_
  refine wp_region_list ?_
  refine st1 hS (mv rfl) rfl fun a w hS => ?_
  refine wpList_nil ?_
  refine then_n ?_
  refine s_condT hS rfl ?_
  refine wp_seq ?_
  refine wp_region_list ?_
  refine st1 hS (mkF rfl rfl) rfl fun a w hS => ?_
  refine st1 hS (asg rfl) rfl fun a w hS => ?_
  refine wpList_nil ?_
  refine then_n ?_
  refine wp_ret ?_
  refine then_ret ?_
  exact s_ret (rs := [4]) hS rfl rfl (hret b56 f57 w hM hB58 (hS.st.pick [0] (by kernel_rfl)))

theorem win_order_1_e6c5_c {H : Imm} {F : List Frag} {w : World} {R : Ending → World → Prop} {kr : Int → Prop} {kp : Value → Prop} (hG : Gl H) (K : Nat) (weight69 : Int) (free70 : Int) (b71 : Nat) (f72 : Frag) (hB73 : Blk f72 b71 ([.int .i64 free70]) 3)
    (hS : St w H [f72] F) (hm : (win_order_1_e6c5.m K weight69 free70).wp kr kp)
    (hret : ∀ (x75 : Int) (w : World), kr x75 → St w H [f72] F → R (.returned (.int .i64 x75)) w) :
    Calls Tryd.prog 25 ⟨[.int .i64 weight69, ptr b71 0]⟩ w R := by
  refine enter Tryd.func25 rfl Tryd.ntmps25 rfl hS fun a w hS => ?_
  have hM := hm; clear hm
  rw [win_order_1_e6c5.m] at hM
  refine wp_seq ?_
  refine wp_region_list ?_
  refine st1 hS (asg rfl) rfl fun a w hS => ?_
  refine wpList_nil ?_
  refine then_n ?_
  refine wp_seq ?_
  refine wp_region_list ?_
  refine st1 hS (ldb 0 rfl hB73 rfl rfl Tryd.isAgg3) rfl fun a w hS => ?_
  refine st1 hS (bin rfl rfl rfl) rfl fun a w hS => ?_
  refine st1 hS (mv rfl) rfl fun a w hS => ?_
  refine st1 hS (bin rfl rfl rfl) rfl fun a w hS => ?_
  refine st1x (v := Value.int .i64) hS (asg rfl) rfl fun v74 a w hz hS => ?_
  have hM := lt_to hz hM; clear hz
  refine wpList_nil ?_
  refine then_n ?_
  refine wp_ret ?_
  exact s_ret (rs := [3]) hS rfl rfl (hret v74 w hM (hS.st.pick [0] (by kernel_rfl)))

theorem win_Window_Uint_true_c {H : Imm} {F : List Frag} {w : World} {R : Ending → World → Prop} {kr : (Int × Int) → Prop} {kp : Value → Prop} (hG : Gl H) (K : Nat) (w_13 : T_win_Window) (at_14 : Int) (width15 : Int)
    (hS : St w H [] F) (hm : (win_Window_Uint_true.m K w_13 at_14 width15).wp kr kp)
    (hret : ∀ (x84 : Int) (x85 : Int) (w : World), kr (x84, x85) → St w H [] F → R (.returned (.tuple ⟨[.int .u64 x84, .int .i64 x85]⟩)) w) :
    Calls Tryd.prog 8 ⟨[.agg ⟨[str w_13.text_, .int .i64 w_13.base_]⟩, .int .i64 at_14, .int .i64 width15, .bool true]⟩ w R := by
  refine enter Tryd.func8 rfl Tryd.ntmps8 rfl hS fun a w hS => ?_
  have hM := hm; clear hm
  rw [win_Window_Uint_true.m] at hM
  refine wp_seq ?_
  refine wp_region_list ?_
  refine bx ([str w_13.text_, .int .i64 w_13.base_]) hS rfl rfl rfl fun w b16 f17 hB18 hS => ?_
  refine st1 hS (asg rfl) rfl fun a w hS => ?_
  refine st1 hS (asg rfl) rfl fun a w hS => ?_
  refine wpList_nil ?_
  refine then_n ?_
  refine wp_seq ?_
  refine wp_seq ?_
  refine wp_region_list ?_
  refine st1 hS (mv rfl) rfl fun a w hS => ?_
  refine s_call hS rfl Tryd.call15 (win_isWidth_c hG K width15 (hS.st.part 0 [0] (by kernel_rfl)) (wp_bind hM) (fun x22 w hM  hst => s_back hS.ev hst.appF rfl fun hS => ?_))
  replace hS : Ss _ _ _ H [f17] F _ _ := hS
  refine st1 hS (un rfl rfl) rfl fun a w hS => ?_
  refine wpList_nil ?_
  refine then_n ?_
  refine s_cond hS rfl hM (fun hb23 hM => ?_) (fun hb23 hM => ?_)
  · refine wp_seq ?_
    refine wp_region_list ?_
    refine st1 hS (asg rfl) rfl fun a w hS => ?_
    refine st1 hS (asg rfl) rfl fun a w hS => ?_
    refine wpList_nil ?_
    refine then_n ?_
    refine wp_ret ?_
    refine then_ret ?_
    exact s_ret (rs := [8, 9]) hS rfl rfl (hret (0 : Int) (1 : Int) w hM (hS.st.pick [] (by kernel_rfl)))
  · refine wp_skip ?_
    refine then_n ?_
    refine wp_seq ?_
    refine wp_region_list ?_
    refine st1 hS (ldbA 0 rfl hB18 rfl ([str w_13.text_, .int .i64 w_13.base_]) rfl rfl Tryd.isAgg33 Tryd.sizeOf33) rfl fun a w hS => ?_
    refine st1 hS (mkF rfl rfl) rfl fun a w hS => ?_
    refine st1 hS (asg rfl) rfl fun a w hS => ?_
    refine wpList_nil ?_
    refine then_n ?_
    refine wp_seq ?_
    refine wp_region_list ?_
    refine st1 hS (mv rfl) rfl fun a w hS => ?_
    refine st1 hS (mv rfl) rfl fun a w hS => ?_
    refine st1 hS (mv rfl) rfl fun a w hS => ?_
    refine s_callV hS rfl rfl Tryd.call16 (win_Window_Sub_c hG K w_13 at_14 width15 (hS.st.part 0 [0] (by kernel_rfl)) (wp_bind hM) (fun text46 base47 x48 w hM  hst => s_back hS.ev hst.appF rfl fun hS => ?_))
    replace hS : Ss _ _ _ H [f17] F _ _ := hS
    refine st1 hS (mv rfl) rfl fun a w hS => ?_
    refine st1 hS (ex rfl rfl) rfl fun a w hS => ?_
    refine st1 hS (ex rfl rfl) rfl fun a w hS => ?_
    refine alc ([str ([] : List UInt8), .int .i64 (0 : Int)]) hS Tryd.zeroValue33 rfl rfl fun w b49 f50 hB51 hS => ?_
    refine stB 0 ([str text46, .int .i64 base47]) ([str text46, .int .i64 base47]) hS rfl rfl hB51 rfl rfl Tryd.sizeOf33 (by simp [Value.oneCell']) (Nat.le_of_ble_eq_true rfl) rfl fun w f52 hB53 hS => ?_
    refine st1 hS (asg rfl) rfl fun a w hS => ?_
    refine wpList_nil ?_
    refine then_n ?_
    refine wp_seq ?_
    refine wp_seq ?_
    refine wp_region_list ?_
    refine st1 hS (mv rfl) rfl fun a w hS => ?_
    refine st1 hS (bin rfl rfl rfl) rfl fun a w hS => ?_
    refine wpList_nil ?_
    refine then_n ?_
    refine s_cond hS rfl hM (fun hb54 hM => ?_) (fun hb54 hM => ?_)
    · refine wp_seq ?_
      refine wp_region_list ?_
      refine st1 hS (mv rfl) rfl fun a w hS => ?_
      refine st1 hS (asg rfl) rfl fun a w hS => ?_
      refine st1 hS (asg rfl) rfl fun a w hS => ?_
      refine wpList_nil ?_
      refine then_n ?_
      refine wp_ret ?_
      refine then_ret ?_
      exact s_ret (rs := [8, 9]) hS rfl rfl (hret (0 : Int) x48 w hM (hS.st.pick [] (by kernel_rfl)))
    · refine wp_skip ?_
      refine then_n ?_
      refine wp_seq ?_
      refine wp_region_list ?_
      refine st1 hS (mv rfl) rfl fun a w hS => ?_
      refine st1 hS (mv rfl) rfl fun a w hS => ?_
      refine s_call hS rfl Tryd.call17 (win_order_true_c hG K width15 (hS.st.part 0 [0, 1] (by kernel_rfl)) (wp_bind hM) (fun b62 f63 w hM h64 hst => s_back hS.ev hst.appF rfl fun hS => ?_))
      replace hS : Ss _ _ _ H [f63, f52, f17] F _ _ := hS
      refine st1 hS (asg rfl) rfl fun a w hS => ?_
      refine wpList_nil ?_
      refine then_n ?_
      refine wp_seq ?_
      refine wp_region_list ?_
      refine st1 hS (asg rfl) rfl fun a w hS => ?_
      refine wpList_nil ?_
      refine then_n ?_
      refine wp_seq ?_
      refine wp_seq ?_
      refine wp_region_list ?_
      refine st1 hS (mv rfl) rfl fun a w hS => ?_
      refine st1 hS (mv rfl) rfl fun a w hS => ?_
      refine wpList_nil ?_
      refine then_n ?_
      refine wp_block ?_
      refine s_loopJ (fun k67 a w => ∃ (n_65 : Int) (v66 : Int), Ss 52 [] [(11, ptr b49 0), (13, fnv 25 [] [ptr b62 0]), (14, .int .u64 n_65), (34, .int .i64 width15), (35, .int .i64 v66)] H [f52, f63] F a w ∧ (win_Window_Uint_true.l1 K width15 text46 k67 n_65 v66).wp kr kp) K ?_ ?_ ?_
      · exact ⟨(0 : Int), (0 : Int), hS.to [1, 0] (by kernel_rfl) ⟨rfl, rfl, rfl, rfl, rfl, trivial⟩, hM⟩
      · intro a w hI; obtain ⟨_, _, _, hM⟩ := hI; exact hM
      · intro k67 a w hI J83 hJ83
        obtain ⟨n_65, v66, hS, hM⟩ := hI
        rw [win_Window_Uint_true.l1] at hM
        refine wp_seq ?_
        refine wp_region_list ?_
        refine st1 hS (bin rfl rfl rfl) rfl fun a w hS => ?_
        refine wpList_nil ?_
        refine then_n ?_
        refine wp_seq ?_
        refine s_cond hS rfl hM (fun hb68 hM => ?_) (fun hb68 hM => ?_)
        · refine wp_skip ?_
          refine then_n ?_
          refine wp_seq ?_
          refine wp_block ?_
          refine wp_seq ?_
          refine wp_region_list ?_
          refine st1 hS (mv rfl) rfl fun a w hS => ?_
          refine st1 hS (asg rfl) rfl fun a w hS => ?_
          refine wpList_nil ?_
          refine then_n ?_
          refine draw_begin (vals := [some (.int .u64 n_65), some (ptr b49 0), some (str text46), some (fnv 25 [] [ptr b62 0]), some (.int .i64 v66), none, none, none, some (.int .i64 v66), some (.int .i64 (w64 ((8 : Int) * v66))), none, none, none]) hS mixed rfl ?_
          intro l w ho hcl hA hst
          refine phase' (vals := [some (.int .u64 n_65), some (ptr b49 0), some (str text46), some (fnv 25 [] [ptr b62 0]), some (.int .i64 v66), none, none, none, some (.int .i64 v66), some (.int .i64 (w64 ((8 : Int) * v66))), none, none, none]) 5 [] [0, 1, 2, 3, 4, 8, 9] rfl rfl rfl rfl (by exact ⟨nR rfl rfl rfl rfl rfl (by exact ovE (mv rfl) rfl), nR rfl rfl rfl rfl rfl (by exact ovE (fad rfl Tryd.runUnderlying33 rfl Tryd.sizeOf9 rfl) rfl), nR rfl rfl rfl rfl rfl (by exact ovE (ldb 0 rfl hB53 rfl rfl Tryd.isAgg9) rfl), nR rfl rfl rfl rfl rfl (by exact ovE (mv rfl) rfl), nR rfl rfl rfl rfl rfl (by exact ovE (mv rfl) rfl), nR rfl rfl rfl rfl rfl (by exact ovE (mv rfl) rfl), nR rfl rfl rfl rfl rfl (by exact ovE (bin rfl rfl rfl) rfl), trivial⟩) (fun D l a w ho hcl hav hpre hm hE hk hA hst => ?_) ho hcl (fun j hj => (List.not_mem_nil hj).elim) (fun m hm => (List.not_mem_nil hm).elim) List.not_mem_nil hA hst
          have hS := (Ss.mk hE hst).env2 (e' := [(41, fnv 25 [] [ptr b62 0]), (42, .int .i64 v66)]) ⟨rfl, rfl, trivial⟩
          refine op_of_nth rfl ?_
          refine s_callV hS rfl rfl Tryd.call25 (win_order_1_e6c5_c hG K v66 width15 b62 f63 h64 (hS.st.part 1 [1, 0] (by kernel_rfl)) (wp_bind hM) (fun x76 w hM  hst => s_back hS.ev hst.appF rfl fun hS => ?_))
          replace hS : Ss _ _ _ H [f63, f52] F _ _ := hS
          refine wpList_nil (then_n ?_)
          have hcl2 := hcl.cons (k := 5) (nth_get rfl) hpre
          have hmust := must_cons (k := 5) hm (chain (k := 5) hcl (nth_get rfl) hpre [(3, 5), (4, 5)] [] rfl (fun _ h => absurd h List.not_mem_nil))
          replace hst := hS.st
          obtain ⟨hk78, hM⟩ := wp_chk hM
          obtain ⟨hk80, hM⟩ := wp_chk hM
          obtain ⟨n_81, hz82⟩ : ∃ x, x = (ior .u64 n_65 (ishl .u64 (wr .u64 ((rd text46 x76).toNat : Int)) (w64 ((8 : Int) * v66)))) := ⟨_, rfl⟩
          replace hM := lt_to hz82 hM
          have hav2 := hav.cons (vals' := [some (.int .u64 n_65), some (ptr b49 0), some (str text46), some (fnv 25 [] [ptr b62 0]), some (.int .i64 v66), some (.int .i64 x76), some (.int .u8 ((rd text46 x76).toNat : Int)), some (.int .u64 (wr .u64 ((rd text46 x76).toNat : Int))), some (.int .i64 v66), some (.int .i64 (w64 ((8 : Int) * v66))), some (.int .u64 (ishl .u64 (wr .u64 ((rd text46 x76).toNat : Int)) (w64 ((8 : Int) * v66)))), some (.int .u64 (ior .u64 n_65 (ishl .u64 (wr .u64 ((rd text46 x76).toNat : Int)) (w64 ((8 : Int) * v66))))), some (.int .u64 n_81)]) (k := 5) ⟨rfl, rfl, rfl, rfl, rfl, rfl, rfl, trivial⟩ rfl
          replace hA := (hA.next hav (subV.get (l' := [some (.int .u64 n_65), some (ptr b49 0), some (str text46), some (fnv 25 [] [ptr b62 0]), some (.int .i64 v66), some (.int .i64 x76), some (.int .u8 ((rd text46 x76).toNat : Int)), some (.int .u64 (wr .u64 ((rd text46 x76).toNat : Int))), some (.int .i64 v66), some (.int .i64 (w64 ((8 : Int) * v66))), some (.int .u64 (ishl .u64 (wr .u64 ((rd text46 x76).toNat : Int)) (w64 ((8 : Int) * v66)))), some (.int .u64 (ior .u64 n_65 (ishl .u64 (wr .u64 ((rd text46 x76).toNat : Int)) (w64 ((8 : Int) * v66))))), some (.int .u64 n_81)]) ⟨rfl, rfl, rfl, rfl, rfl, rfl, rfl, trivial⟩)).step rfl (nth_get rfl) hk rfl rfl rfl
          clear hm hav
          replace hcl := hcl2
          refine phaseE (vals := [some (.int .u64 n_65), some (ptr b49 0), some (str text46), some (fnv 25 [] [ptr b62 0]), some (.int .i64 v66), some (.int .i64 x76), some (.int .u8 ((rd text46 x76).toNat : Int)), some (.int .u64 (wr .u64 ((rd text46 x76).toNat : Int))), some (.int .i64 v66), some (.int .i64 (w64 ((8 : Int) * v66))), some (.int .u64 (ishl .u64 (wr .u64 ((rd text46 x76).toNat : Int)) (w64 ((8 : Int) * v66)))), some (.int .u64 (ior .u64 n_65 (ishl .u64 (wr .u64 ((rd text46 x76).toNat : Int)) (w64 ((8 : Int) * v66))))), some (.int .u64 n_81)]) [5, 3, 4] [0, 1, 2, 6, 7, 8, 9, 10, 11, 12] rfl rfl rfl (by exact ⟨nR rfl rfl rfl rfl rfl (by exact ovE (mv rfl) rfl), nR rfl rfl rfl rfl rfl (by exact ovE (fad rfl Tryd.runUnderlying33 rfl Tryd.sizeOf9 rfl) rfl), nR rfl rfl rfl rfl rfl (by exact ovE (ldb 1 rfl hB53 rfl rfl Tryd.isAgg9) rfl), nR rfl rfl rfl rfl rfl (by exact ovE (ixs rfl rfl Tryd.runUnderlying9 hk78) rfl), nR rfl rfl rfl rfl rfl (by exact ovE (cvi rfl Tryd.runUnderlying5 Tryd.runUnderlying34) rfl), nR rfl rfl rfl rfl rfl (by exact ovE (mv rfl) rfl), nR rfl rfl rfl rfl rfl (by exact ovE (bin rfl rfl rfl) rfl), nR rfl rfl rfl rfl rfl (by exact ovE (shl rfl rfl hk80) rfl), nR rfl rfl rfl rfl rfl (by exact ovE (bin rfl rfl rfl) rfl), nR rfl rfl rfl rfl rfl (by exact ovE (asg rfl) (congrArg (Value.int .u64) hz82.symm)), trivial⟩) (fun a w hS => ?_) ho hcl hmust hA hst
          replace hS := hS.env2 (e' := [(11, ptr b49 0), (13, fnv 25 [] [ptr b62 0]), (14, .int .u64 n_81), (34, .int .i64 width15), (35, .int .i64 v66)]) ⟨rfl, rfl, rfl, rfl, rfl, trivial⟩
          refine blk_n (then_n ?_)
          refine wp_region_list ?_
          refine st1 hS (bin rfl rfl rfl) rfl fun a w hS => ?_
          refine st1 hS (mv rfl) rfl fun a w hS => ?_
          refine wpList_nil ?_
          refine then_n ?_
          exact hJ83 _ _ ⟨n_81, (w64 (v66 + (1 : Int))), hS.to [1, 0] (by kernel_rfl) ⟨rfl, rfl, rfl, rfl, rfl, trivial⟩, hM⟩
        · refine wp_exit ?_
          refine then_ex (then_ex (blk_same (then_n ?_)))
          refine wp_seq ?_
          refine wp_region_list ?_
          refine st1 hS (mv rfl) rfl fun a w hS => ?_
          refine st1 hS (asg rfl) rfl fun a w hS => ?_
          refine st1 hS (asg rfl) rfl fun a w hS => ?_
          refine wpList_nil ?_
          refine then_n ?_
          refine wp_ret ?_
          exact s_ret (rs := [8, 9]) hS rfl rfl (hret n_65 (0 : Int) w hM (hS.st.pick [] (by kernel_rfl)))

theorem bits_New_c {H : Imm} {F : List Frag} {w : World} {R : Ending → World → Prop} {kr : Unit → Prop} {kp : Value → Prop} (hG : Gl H) (K : Nat) (s122 : List UInt8)
    (hS : St w H [] F) (hm : (bits_New.m K s122).wp kr kp)
    (hret : ∀ (b126 : Nat) (f127 : Frag) (w : World), kr () → (Blk f127 b126 ([.int .i64 (0 : Int), str s122]) 65) → St w H [f127] F → R (.returned (ptr b126 0)) w) :
    Calls Tryd.prog 19 ⟨[str s122]⟩ w R := by
  refine enter Tryd.func19 rfl Tryd.ntmps19 rfl hS fun a w hS => ?_
  have hM := hm; clear hm
  rw [bits_New.m] at hM
  refine wp_seq ?_
  refine wp_region_list ?_
  refine st1 hS (asg rfl) rfl fun a w hS => ?_
  refine wpList_nil ?_
  refine then_n ?_
  refine wp_seq ?_
  refine wp_region_list ?_
  refine st1 hS (mv rfl) rfl fun a w hS => ?_
  refine st1 hS (bld ([.int .i64 (0 : Int), str s122]) [(0, 1), (1, 1)] Tryd.zeroValue65 Tryd.runUnderlying65 (by intro w; simp [Tryd.sizeOf63, Tryd.sizeOf9]) rfl rfl) rfl fun a w hS => ?_
  refine bx ([.int .i64 (0 : Int), str s122]) hS rfl rfl rfl fun w b123 f124 hB125 hS => ?_
  refine st1 hS (asg rfl) rfl fun a w hS => ?_
  refine wpList_nil ?_
  refine then_n ?_
  refine wp_ret ?_
  exact s_ret (rs := [2]) hS rfl rfl (hret b123 f124 w hM hB125 (hS.st.pick [0] (by kernel_rfl)))

theorem bits_Reader_Bits_c {H : Imm} {F : List Frag} {w : World} {R : Ending → World → Prop} {kr : (Int × Int × Int) → Prop} {kp : Value → Prop} (hG : Gl H) (K : Nat) (r161 : T_bits_Reader) (n_165 : Int) (b162 : Nat) (f163 : Frag) (hB164 : Blk f163 b162 ([.int .i64 r161.place_.at_, str r161.text_]) 65)
    (hS : St w H [f163] F) (hm : (bits_Reader_Bits.m K r161 n_165).wp kr kp)
    (hret : ∀ (x189 : Int) (x190 : Int) (at_191 : Int) (f192 : Frag) (w : World), kr (x189, x190, at_191) → (Blk f192 b162 ([.int .i64 at_191, str r161.text_]) 65) → St w H [f192] F → R (.returned (.tuple ⟨[.int .u32 x189, .int .i64 x190]⟩)) w) :
    Calls Tryd.prog 39 ⟨[ptr b162 0, .int .i64 n_165]⟩ w R := by
  refine enter Tryd.func39 rfl Tryd.ntmps39 rfl hS fun a w hS => ?_
  have hM := hm; clear hm
  rw [bits_Reader_Bits.m] at hM
  refine wp_seq ?_
  refine wp_region_list ?_
  refine st1 hS (asg rfl) rfl fun a w hS => ?_
  refine st1 hS (asg rfl) rfl fun a w hS => ?_
  refine wpList_nil ?_
  refine then_n ?_
  refine wp_seq ?_
  refine wp_block ?_
  refine wp_seq ?_
  refine wp_region_list ?_
  refine st1 hS (mv rfl) rfl fun a w hS => ?_
  refine st1 hS (eqNil rfl rfl Tryd.runUnderlying48) rfl fun a w hS => ?_
  refine st1 hS (mv rfl) rfl fun a w hS => ?_
  refine st1g hS rfl rfl rfl rfl (mv rfl) rfl fun a w hS => ?_
  refine st1g hS rfl rfl rfl rfl (bin rfl rfl rfl) rfl fun a w hS => ?_
  refine st1 hS (pk rfl rfl rfl) rfl fun a w hS => ?_
  refine st1 hS (mv rfl) rfl fun a w hS => ?_
  refine g_op 2 false 16 (b := (decide (n_165 < (0 : Int)))) (r := (decide (n_165 > (32 : Int)))) hS rfl rfl rfl rfl rfl rfl rfl (fun hb a w hS K hK => ?_) rfl fun a w hS => ?_
  · refine st1g hS rfl rfl rfl hb (mv rfl) rfl fun a w hS => ?_
    refine st1g hS rfl rfl rfl hb (bin rfl rfl rfl) rfl fun a w hS => ?_
    exact wpList_nil (hK _ _ (hS.up 2 rfl rfl))
  refine st1x (v := Value.bool) hS (asg rfl) rfl fun v166 a w hz hS => ?_
  have hM := lt_to hz hM; clear hz
  refine wpList_nil ?_
  refine then_n ?_
  refine s_cond hS rfl hM (fun hb167 hM => ?_) (fun hb167 hM => ?_)
  · refine wp_seq ?_
    refine wp_region_list ?_
    refine st1 hS (asg rfl) rfl fun a w hS => ?_
    refine st1 hS (asg rfl) rfl fun a w hS => ?_
    refine wpList_nil ?_
    refine then_n ?_
    refine wp_ret ?_
    refine blk_ret (then_ret ?_)
    exact s_ret (rs := [4, 5]) hS rfl rfl (hret (0 : Int) (1 : Int) r161.place_.at_ f163 w hM hB164 (hS.st.pick [0] (by kernel_rfl)))
  · refine wp_seq ?_
    obtain ⟨v168, hz169⟩ : ∃ x, x = (decide (n_165 > (w64 ((w64 ((8 : Int) * (r161.text_.length : Int))) - r161.place_.at_)))) := ⟨_, rfl⟩
    replace hM := lt_to hz169 hM
    refine draw_begin (vals := [some (.int .i64 n_165), some (ptr b162 0), some (ptr b162 0), some (ptr b162 1), some (str r161.text_), some (.int .i64 (r161.text_.length : Int)), some (.int .i64 (w64 ((8 : Int) * (r161.text_.length : Int)))), some (ptr b162 0), some (ptr b162 0), some (ptr b162 0), some (ptr b162 0), some (.int .i64 r161.place_.at_), some (.int .i64 (w64 ((w64 ((8 : Int) * (r161.text_.length : Int))) - r161.place_.at_))), some (.bool (decide (n_165 > (w64 ((w64 ((8 : Int) * (r161.text_.length : Int))) - r161.place_.at_))))), some (.bool v168)]) hS mixed rfl ?_
    intro l w ho hcl hA hst
    refine phaseE (vals := [some (.int .i64 n_165), some (ptr b162 0), some (ptr b162 0), some (ptr b162 1), some (str r161.text_), some (.int .i64 (r161.text_.length : Int)), some (.int .i64 (w64 ((8 : Int) * (r161.text_.length : Int)))), some (ptr b162 0), some (ptr b162 0), some (ptr b162 0), some (ptr b162 0), some (.int .i64 r161.place_.at_), some (.int .i64 (w64 ((w64 ((8 : Int) * (r161.text_.length : Int))) - r161.place_.at_))), some (.bool (decide (n_165 > (w64 ((w64 ((8 : Int) * (r161.text_.length : Int))) - r161.place_.at_))))), some (.bool v168)]) [] [0, 1, 2, 3, 4, 5, 6, 7, 8, 9, 10, 11, 12, 13, 14] rfl rfl rfl (by exact ⟨nR rfl rfl rfl rfl rfl (by exact ovE (mv rfl) rfl), nR rfl rfl rfl rfl rfl (by exact ovE (mv rfl) rfl), nR rfl rfl rfl rfl rfl (by exact ovE (nck rfl) rfl), nR rfl rfl rfl rfl rfl (by exact ovE (fad rfl Tryd.runUnderlying65 rfl Tryd.sizeOf9 rfl) rfl), nR rfl rfl rfl rfl rfl (by exact ovE (ldb 0 rfl hB164 rfl rfl Tryd.isAgg9) rfl), nR rfl rfl rfl rfl rfl (by exact ovE (lenS rfl Tryd.runUnderlying9) rfl), nR rfl rfl rfl rfl rfl (by exact ovE (bin rfl rfl rfl) rfl), nR rfl rfl rfl rfl rfl (by exact ovE (mv rfl) rfl), nR rfl rfl rfl rfl rfl (by exact ovE (nck rfl) rfl), nR rfl rfl rfl rfl rfl (by exact ovE (fad rfl Tryd.runUnderlying65 rfl Tryd.sizeOf63 rfl) rfl), nR rfl rfl rfl rfl rfl (by exact ovE (fad rfl Tryd.runUnderlying63 rfl Tryd.sizeOf3 rfl) rfl), nR rfl rfl rfl rfl rfl (by exact ovE (ldb 0 rfl hB164 rfl rfl Tryd.isAgg3) rfl), nR rfl rfl rfl rfl rfl (by exact ovE (bin rfl rfl rfl) rfl), nR rfl rfl rfl rfl rfl (by exact ovE (bin rfl rfl rfl) rfl), nR rfl rfl rfl rfl rfl (by exact ovE (asg rfl) (congrArg (Value.bool) hz169.symm)), trivial⟩) (fun a w hS => ?_) ho hcl (fun m hm => (List.not_mem_nil hm).elim) hA hst
    replace hS := hS.env2 (e' := [(0, ptr b162 0), (1, .int .i64 n_165), (20, .bool v168)]) ⟨rfl, rfl, rfl, trivial⟩
    refine then_n ?_
    refine s_cond hS rfl hM (fun hb170 hM => ?_) (fun hb170 hM => ?_)
    · refine wp_seq ?_
      refine wp_region_list ?_
      refine st1 hS (asg rfl) rfl fun a w hS => ?_
      refine st1 hS (asg rfl) rfl fun a w hS => ?_
      refine wpList_nil ?_
      refine then_n ?_
      refine wp_ret ?_
      refine blk_ret (then_ret ?_)
      exact s_ret (rs := [4, 5]) hS rfl rfl (hret (0 : Int) (2 : Int) r161.place_.at_ f163 w hM hB164 (hS.st.pick [0] (by kernel_rfl)))
    · refine wp_skip ?_
      refine blk_n (then_n ?_)
      refine wp_seq ?_
      refine wp_region_list ?_
      refine st1 hS (asg rfl) rfl fun a w hS => ?_
      refine wpList_nil ?_
      refine then_n ?_
      refine wp_seq ?_
      refine wp_region_list ?_
      refine st1 hS (mv rfl) rfl fun a w hS => ?_
      refine st1 hS (nck rfl) rfl fun a w hS => ?_
      refine st1 hS (fad rfl Tryd.runUnderlying65 rfl Tryd.sizeOf63 rfl) rfl fun a w hS => ?_
      refine st1 hS (fad rfl Tryd.runUnderlying63 rfl Tryd.sizeOf3 rfl) rfl fun a w hS => ?_
      refine st1 hS (ldb 0 rfl hB164 rfl rfl Tryd.isAgg3) rfl fun a w hS => ?_
      refine st1 hS (quo rfl rfl rfl) rfl fun a w hS => ?_
      refine st1x (v := Value.int .i64) hS (asg rfl) rfl fun first171 a w hz hS => ?_
      have hM := lt_to hz hM; clear hz
      refine wpList_nil ?_
      refine then_n ?_
      refine seq_joinJ (fun a w => ∃ (v181 : Int), Ss 93 [] [(0, ptr b162 0), (1, .int .i64 n_165), (6, .int .u64 v181)] H [f163] F a w ∧ (bits_Reader_Bits.j2 K r161 n_165 v181).wp kr kp) (fun J182 hJ182 => ?_) ?_
      · refine wp_seq ?_
        refine wp_region_list ?_
        refine st1 hS (asg rfl) rfl fun a w hS => ?_
        refine wpList_nil ?_
        refine then_n ?_
        refine wp_block ?_
        refine s_loopJ (fun k174 a w => ∃ (v172 : Int) (i173 : Int), Ss 93 [] [(0, ptr b162 0), (1, .int .i64 n_165), (6, .int .u64 v172), (7, .int .i64 first171), (8, .int .i64 i173)] H [f163] F a w ∧ (bits_Reader_Bits.l1 K r161 n_165 first171 k174 v172 i173).wp kr kp) K ?_ ?_ ?_
        · exact ⟨(0 : Int), (0 : Int), hS.to [0] (by kernel_rfl) ⟨rfl, rfl, rfl, rfl, rfl, trivial⟩, hM⟩
        · intro a w hI; obtain ⟨_, _, _, hM⟩ := hI; exact hM
        · intro k174 a w hI J180 hJ180
          obtain ⟨v172, i173, hS, hM⟩ := hI
          rw [bits_Reader_Bits.l1] at hM
          refine wp_seq ?_
          refine wp_seq ?_
          refine wp_region_list ?_
          refine st1 hS (mv rfl) rfl fun a w hS => ?_
          refine st1 hS (mv rfl) rfl fun a w hS => ?_
          refine st1 hS (bin rfl rfl rfl) rfl fun a w hS => ?_
          refine st1 hS (bin rfl rfl rfl) rfl fun a w hS => ?_
          refine st1 hS (mv rfl) rfl fun a w hS => ?_
          refine st1 hS (nck rfl) rfl fun a w hS => ?_
          refine st1 hS (fad rfl Tryd.runUnderlying65 rfl Tryd.sizeOf63 rfl) rfl fun a w hS => ?_
          refine st1 hS (fad rfl Tryd.runUnderlying63 rfl Tryd.sizeOf3 rfl) rfl fun a w hS => ?_
          refine st1 hS (ldb 0 rfl hB164 rfl rfl Tryd.isAgg3) rfl fun a w hS => ?_
          refine st1 hS (mv rfl) rfl fun a w hS => ?_
          refine st1 hS (bin rfl rfl rfl) rfl fun a w hS => ?_
          refine st1 hS (bin rfl rfl rfl) rfl fun a w hS => ?_
          refine wpList_nil ?_
          refine then_n ?_
          refine s_cond hS rfl hM (fun hb175 hM => ?_) (fun hb175 hM => ?_)
          · refine wp_skip ?_
            refine then_n ?_
            refine wp_seq ?_
            refine wp_block ?_
            refine wp_region_list ?_
            refine st1 hS (mv rfl) rfl fun a w hS => ?_
            refine st1 hS (mv rfl) rfl fun a w hS => ?_
            refine st1 hS (nck rfl) rfl fun a w hS => ?_
            refine st1 hS (fad rfl Tryd.runUnderlying65 rfl Tryd.sizeOf9 rfl) rfl fun a w hS => ?_
            refine st1 hS (ldb 0 rfl hB164 rfl rfl Tryd.isAgg9) rfl fun a w hS => ?_
            refine st1 hS (mv rfl) rfl fun a w hS => ?_
            refine st1 hS (mv rfl) rfl fun a w hS => ?_
            refine st1 hS (bin rfl rfl rfl) rfl fun a w hS => ?_
            obtain ⟨hk176, hM⟩ := wp_chk hM
            refine st1 hS (ixs rfl rfl Tryd.runUnderlying9 hk176) rfl fun a w hS => ?_
            refine st1 hS (cvi rfl Tryd.runUnderlying5 Tryd.runUnderlying34) rfl fun a w hS => ?_
            refine st1 hS (mv rfl) rfl fun a w hS => ?_
            refine st1 hS (bin rfl rfl rfl) rfl fun a w hS => ?_
            obtain ⟨hk177, hM⟩ := wp_chk hM
            refine st1 hS (shl rfl rfl hk177) rfl fun a w hS => ?_
            refine st1 hS (bin rfl rfl rfl) rfl fun a w hS => ?_
            refine st1x (v := Value.int .u64) hS (asg rfl) rfl fun v178 a w hz hS => ?_
            have hM := lt_to hz hM; clear hz
            refine wpList_nil ?_
            refine blk_n (then_n ?_)
            refine wp_region_list ?_
            refine st1 hS (mv rfl) rfl fun a w hS => ?_
            refine st1 hS (bin rfl rfl rfl) rfl fun a w hS => ?_
            refine st1x (v := Value.int .i64) hS (asg rfl) rfl fun i179 a w hz hS => ?_
            have hM := lt_to hz hM; clear hz
            refine wpList_nil ?_
            refine then_n ?_
            exact hJ180 _ _ ⟨v178, i179, hS.to [0] (by kernel_rfl) ⟨rfl, rfl, rfl, rfl, rfl, trivial⟩, hM⟩
          · refine wp_exit ?_
            refine then_ex (then_ex (blk_same (then_n ?_)))
            exact hJ182 _ _ ⟨v172, hS.to [0] (by kernel_rfl) ⟨rfl, rfl, rfl, trivial⟩, hM⟩
      · intro a w hI
        obtain ⟨v181, hS, hM⟩ := hI
        rw [bits_Reader_Bits.j2] at hM
        refine wp_seq ?_
        refine wp_region_list ?_
        refine st1 hS (mv rfl) rfl fun a w hS => ?_
        refine st1 hS (mv rfl) rfl fun a w hS => ?_
        refine st1 hS (nck rfl) rfl fun a w hS => ?_
        refine st1 hS (fad rfl Tryd.runUnderlying65 rfl Tryd.sizeOf63 rfl) rfl fun a w hS => ?_
        refine st1 hS (fad rfl Tryd.runUnderlying63 rfl Tryd.sizeOf3 rfl) rfl fun a w hS => ?_
        refine st1 hS (ldb 0 rfl hB164 rfl rfl Tryd.isAgg3) rfl fun a w hS => ?_
        refine st1 hS (bin rfl rfl rfl) rfl fun a w hS => ?_
        obtain ⟨hk183, hM⟩ := wp_chk hM
        refine st1 hS (shr rfl rfl hk183) rfl fun a w hS => ?_
        refine st1x (v := Value.int .u64) hS (asg rfl) rfl fun v184 a w hz hS => ?_
        have hM := lt_to hz hM; clear hz
        refine wpList_nil ?_
        refine then_n ?_
        refine wp_seq ?_
        refine wp_region_list ?_
        refine st1 hS (mv rfl) rfl fun a w hS => ?_
        refine st1 hS (nck rfl) rfl fun a w hS => ?_
        refine st1 hS (fad rfl Tryd.runUnderlying65 rfl Tryd.sizeOf63 rfl) rfl fun a w hS => ?_
        refine st1 hS (fad rfl Tryd.runUnderlying63 rfl Tryd.sizeOf3 rfl) rfl fun a w hS => ?_
        refine st1 hS (ldb 0 rfl hB164 rfl rfl Tryd.isAgg3) rfl fun a w hS => ?_
        refine st1 hS (mv rfl) rfl fun a w hS => ?_
        refine st1 hS (bin rfl rfl rfl) rfl fun a w hS => ?_
        refine st1 hS (nck rfl) rfl fun a w hS => ?_
        refine st1 hS (fad rfl Tryd.runUnderlying65 rfl Tryd.sizeOf63 rfl) rfl fun a w hS => ?_
        refine st1 hS (fad rfl Tryd.runUnderlying63 rfl Tryd.sizeOf3 rfl) rfl fun a w hS => ?_
        refine sto 0 ([.int .i64 (w64 (r161.place_.at_ + n_165)), str r161.text_]) hS rfl rfl hB164 rfl rfl rfl rfl Tryd.sizeOf3 fun w f185 hB186 hS => ?_
        refine wpList_nil ?_
        refine then_n ?_
        refine wp_seq ?_
        refine wp_region_list ?_
        refine st1 hS (mv rfl) rfl fun a w hS => ?_
        refine st1 hS (mv rfl) rfl fun a w hS => ?_
        obtain ⟨hk187, hM⟩ := wp_chk hM
        refine st1 hS (shl rfl rfl hk187) rfl fun a w hS => ?_
        refine st1 hS (bin rfl rfl rfl) rfl fun a w hS => ?_
        refine st1 hS (bin rfl rfl rfl) rfl fun a w hS => ?_
        refine st1 hS (cvi rfl Tryd.runUnderlying34 Tryd.runUnderlying37) rfl fun a w hS => ?_
        refine st1x (v := Value.int .u32) hS (asg rfl) rfl fun v188 a w hz hS => ?_
        have hM := lt_to hz hM; clear hz
        refine st1 hS (asg rfl) rfl fun a w hS => ?_
        refine wpList_nil ?_
        refine then_n ?_
        refine wp_ret ?_
        exact s_ret (rs := [4, 5]) hS rfl rfl (hret v188 (0 : Int) (w64 (r161.place_.at_ + n_165)) f185 w hM hB186 (hS.st.pick [0] (by kernel_rfl)))

theorem inflate_must_c {H : Imm} {F : List Frag} {w : World} {R : Ending → World → Prop} {kr : Unit → Prop} {kp : Value → Prop} (hG : Gl H) (K : Nat) (e_199 : Int)
    (hS : St w H [] F) (hm : (inflate_must.m K e_199).wp kr kp)
    (hret : ∀ (w : World), kr () → St w H [] F → R (.returned (.tuple ⟨[]⟩)) w)
    (hpan : ∀ v w, kp v → St w H [] F → R (.panicked [⟨v, false, false⟩]) w) :
    Calls Tryd.prog 40 ⟨[.int .i64 e_199]⟩ w R := by
  refine enter Tryd.func40 rfl Tryd.ntmps40 rfl hS fun a w hS => ?_
  have hM := hm; clear hm
  rw [inflate_must.m] at hM
  refine wp_seq ?_
  refine wp_region_list ?_
  refine st1 hS (mv rfl) rfl fun a w hS => ?_
  refine st1 hS (bin rfl rfl rfl) rfl fun a w hS => ?_
  refine wpList_nil ?_
  refine then_n ?_
  refine s_cond hS rfl hM (fun hb200 hM => ?_) (fun hb200 hM => ?_)
  · refine wp_region_list ?_
    refine st1 hS (mv rfl) rfl fun a w hS => ?_
    refine st1 hS (bld ([.int .i64 e_199]) [(0, 1)] Tryd.zeroValue46 Tryd.runUnderlying46 (by intro w; simp [Tryd.sizeOf23]) rfl rfl) rfl fun a w hS => ?_
    refine st1 hS (mkI rfl Tryd.runUnderlying46 rfl) rfl fun a w hS => ?_
    refine s_panic hS rfl ?_
    exact ⟨hS.ev.defs, hpan _ _ hM hS.st.frame⟩
  · refine wp_skip ?_
    exact s_end (rs := []) hS rfl rfl (hret w hM (hS.st.pick [] (by kernel_rfl)))

theorem inflate_reader_number_c {H : Imm} {F : List Frag} {w : World} {R : Ending → World → Prop} {kr : (Int × Int) → Prop} {kp : Value → Prop} (hG : Gl H) (K : Nat) (r149 : T_inflate_reader) (n_160 : Int) (b150 : Nat) (f151 : Frag) (b153 : Nat) (f154 : Frag) (A156 : Option Addr) (c157 : Nat) (f158 : Frag) (hB152 : Blk f151 b150 ([ptr b153 0, .slice A156 r149.out_.length c157, .int .i64 r149.limit_]) 51) (hB155 : Blk f154 b153 ([.int .i64 r149.Reader_.place_.at_, str r149.Reader_.text_]) 65) (hV159 : Vec 5 (ci .u8) 1 A156 r149.out_ c157 f158)
    (hS : St w H [f151, f154, f158] F) (hm : (inflate_reader_number.m K r149 n_160).wp kr kp)
    (hret : ∀ (x202 : Int) (at_203 : Int) (f204 : Frag) (w : World), kr (x202, at_203) → (Blk f204 b153 ([.int .i64 at_203, str r149.Reader_.text_]) 65) → St w H [f151, f204, f158] F → R (.returned (.int .i64 x202)) w)
    (hpan : ∀ v w, kp v → St w H [] F → R (.panicked [⟨v, false, false⟩]) w) :
    Calls Tryd.prog 27 ⟨[ptr b150 0, .int .i64 n_160]⟩ w R := by
  refine enter Tryd.func27 rfl Tryd.ntmps27 rfl hS fun a w hS => ?_
  have hM := hm; clear hm
  rw [inflate_reader_number.m] at hM
  refine wp_seq ?_
  refine wp_region_list ?_
  refine st1 hS (asg rfl) rfl fun a w hS => ?_
  refine wpList_nil ?_
  refine then_n ?_
  refine wp_seq ?_
  refine wp_region_list ?_
  refine st1 hS (mv rfl) rfl fun a w hS => ?_
  refine st1 hS (nck rfl) rfl fun a w hS => ?_
  refine st1 hS (fad rfl Tryd.runUnderlying51 rfl Tryd.sizeOf48 rfl) rfl fun a w hS => ?_
  refine st1 hS (ldb 0 rfl hB152 rfl rfl Tryd.isAgg48) rfl fun a w hS => ?_
  refine st1 hS (mv rfl) rfl fun a w hS => ?_
  refine s_call hS rfl Tryd.call39 (bits_Reader_Bits_c hG K r149.Reader_ n_160 b153 f154 hB155 (hS.st.part 1 [1, 0, 2] (by kernel_rfl)) (wp_bind hM) (fun x194 x195 at_196 f197 w hM h198 hst => s_back hS.ev hst.appF rfl fun hS => ?_))
  replace hS : Ss _ _ _ H [f197, f151, f158] F _ _ := hS
  refine st1 hS (mv rfl) rfl fun a w hS => ?_
  refine st1 hS (ex rfl rfl) rfl fun a w hS => ?_
  refine st1 hS (ex rfl rfl) rfl fun a w hS => ?_
  refine st1 hS (asg rfl) rfl fun a w hS => ?_
  refine st1 hS (asg rfl) rfl fun a w hS => ?_
  refine wpList_nil ?_
  refine then_n ?_
  refine wp_seq ?_
  refine wp_region_list ?_
  refine st1 hS (mv rfl) rfl fun a w hS => ?_
  refine s_call hS rfl Tryd.call40 (inflate_must_c hG K x195 (hS.st.part 0 [0, 1, 2] (by kernel_rfl)) (wp_bind hM) (fun  w hM  hst => s_back hS.ev hst.appF rfl fun hS => ?_) (fun v w hk hst => s_pan (then_pan (⟨hS.ev.defs, hpan _ _ hk hst.appF.frame⟩))))
  replace hS : Ss _ _ _ H [f197, f151, f158] F _ _ := hS
  refine wpList_nil ?_
  refine then_n ?_
  refine wp_seq ?_
  refine wp_region_list ?_
  refine st1 hS (mv rfl) rfl fun a w hS => ?_
  refine st1 hS (cvi rfl Tryd.runUnderlying37 Tryd.runUnderlying3) rfl fun a w hS => ?_
  refine st1x (v := Value.int .i64) hS (asg rfl) rfl fun v201 a w hz hS => ?_
  have hM := lt_to hz hM; clear hz
  refine wpList_nil ?_
  refine then_n ?_
  refine wp_ret ?_
  exact s_ret (rs := [4]) hS rfl rfl (hret v201 at_196 f197 w hM h198 (hS.st.pick [1, 0, 2] (by kernel_rfl)))

theorem bits_place_align_bits_Reader_c {H : Imm} {F : List Frag} {w : World} {R : Ending → World → Prop} {kr : Int → Prop} {kp : Value → Prop} (hG : Gl H) (K : Nat) (p234 : T_bits_Reader) (b235 : Nat) (f236 : Frag) (hB237 : Blk f236 b235 ([.int .i64 p234.place_.at_, str p234.text_]) 65)
    (hS : St w H [f236] F) (hm : (bits_place_align_bits_Reader.m K p234).wp kr kp)
    (hret : ∀ (at_240 : Int) (f241 : Frag) (w : World), kr at_240 → (Blk f241 b235 ([.int .i64 at_240, str p234.text_]) 65) → St w H [f241] F → R (.returned (.tuple ⟨[]⟩)) w) :
    Calls Tryd.prog 53 ⟨[ptr b235 0]⟩ w R := by
  refine enter Tryd.func53 rfl Tryd.ntmps53 rfl hS fun a w hS => ?_
  have hM := hm; clear hm
  rw [bits_place_align_bits_Reader.m] at hM
  refine wp_region_list ?_
  refine st1 hS (mv rfl) rfl fun a w hS => ?_
  refine st1 hS (mv rfl) rfl fun a w hS => ?_
  refine st1 hS (nck rfl) rfl fun a w hS => ?_
  refine st1 hS (fad rfl Tryd.runUnderlying63 rfl Tryd.sizeOf3 rfl) rfl fun a w hS => ?_
  refine st1 hS (ldb 0 rfl hB237 rfl rfl Tryd.isAgg3) rfl fun a w hS => ?_
  refine st1 hS (bin rfl rfl rfl) rfl fun a w hS => ?_
  refine st1 hS (bin rfl rfl rfl) rfl fun a w hS => ?_
  refine st1 hS (nck rfl) rfl fun a w hS => ?_
  refine st1 hS (fad rfl Tryd.runUnderlying63 rfl Tryd.sizeOf3 rfl) rfl fun a w hS => ?_
  refine sto 0 ([.int .i64 (iandn .i64 (w64 (p234.place_.at_ + (7 : Int))) (7 : Int)), str p234.text_]) hS rfl rfl hB237 rfl rfl rfl rfl Tryd.sizeOf3 fun w f238 hB239 hS => ?_
  refine wpList_nil ?_
  exact s_end (rs := []) hS rfl rfl (hret (iandn .i64 (w64 (p234.place_.at_ + (7 : Int))) (7 : Int)) f238 w hM hB239 (hS.st.pick [0] (by kernel_rfl)))

theorem bits_Reader_Bytes_c {H : Imm} {F : List Frag} {w : World} {R : Ending → World → Prop} {kr : ((List UInt8) × Int × Int) → Prop} {kp : Value → Prop} (hG : Gl H) (K : Nat) (r228 : T_bits_Reader) (n_232 : Int) (b229 : Nat) (f230 : Frag) (hB231 : Blk f230 b229 ([.int .i64 r228.place_.at_, str r228.text_]) 65)
    (hS : St w H [f230] F) (hm : (bits_Reader_Bytes.m K r228 n_232).wp kr kp)
    (hret : ∀ (x255 : List UInt8) (x256 : Int) (at_257 : Int) (f258 : Frag) (w : World), kr (x255, x256, at_257) → (Blk f258 b229 ([.int .i64 at_257, str r228.text_]) 65) → St w H [f258] F → R (.returned (.tuple ⟨[str x255, .int .i64 x256]⟩)) w) :
    Calls Tryd.prog 41 ⟨[ptr b229 0, .int .i64 n_232]⟩ w R := by
  refine enter Tryd.func41 rfl Tryd.ntmps41 rfl hS fun a w hS => ?_
  have hM := hm; clear hm
  rw [bits_Reader_Bytes.m] at hM
  refine wp_seq ?_
  refine wp_region_list ?_
  refine st1 hS (asg rfl) rfl fun a w hS => ?_
  refine st1 hS (asg rfl) rfl fun a w hS => ?_
  refine wpList_nil ?_
  refine then_n ?_
  refine wp_seq ?_
  refine wp_seq ?_
  refine wp_region_list ?_
  refine st1 hS (mv rfl) rfl fun a w hS => ?_
  refine st1 hS (eqNil rfl rfl Tryd.runUnderlying48) rfl fun a w hS => ?_
  refine st1 hS (mv rfl) rfl fun a w hS => ?_
  refine st1g hS rfl rfl rfl rfl (mv rfl) rfl fun a w hS => ?_
  refine st1g hS rfl rfl rfl rfl (bin rfl rfl rfl) rfl fun a w hS => ?_
  refine st1 hS (pk rfl rfl rfl) rfl fun a w hS => ?_
  refine wpList_nil ?_
  refine then_n ?_
  refine s_cond hS rfl hM (fun hb233 hM => ?_) (fun hb233 hM => ?_)
  · refine wp_seq ?_
    refine wp_region_list ?_
    refine st1 hS (asg rfl) rfl fun a w hS => ?_
    refine st1 hS (asg rfl) rfl fun a w hS => ?_
    refine wpList_nil ?_
    refine then_n ?_
    refine wp_ret ?_
    refine then_ret ?_
    exact s_ret (rs := [4, 5]) hS rfl rfl (hret ([] : List UInt8) (1 : Int) r228.place_.at_ f230 w hM hB231 (hS.st.pick [0] (by kernel_rfl)))
  · refine wp_skip ?_
    refine then_n ?_
    refine wp_seq ?_
    refine wp_region_list ?_
    refine st1 hS (mv rfl) rfl fun a w hS => ?_
    refine st1 hS (nck rfl) rfl fun a w hS => ?_
    refine st1 hS (fad rfl Tryd.runUnderlying65 rfl Tryd.sizeOf63 rfl) rfl fun a w hS => ?_
    refine s_call hS rfl Tryd.call53 (bits_place_align_bits_Reader_c hG K r228 b229 f230 hB231 (hS.st.part 1 [0] (by kernel_rfl)) (wp_bind hM) (fun at_243 f244 w hM h245 hst => s_back hS.ev hst.appF rfl fun hS => ?_))
    replace hS : Ss _ _ _ H [f244] F _ _ := hS
    refine wpList_nil ?_
    refine then_n ?_
    refine wp_seq ?_
    obtain ⟨hk247, hM⟩ := wp_chk hM
    obtain ⟨rest248, hz249⟩ : ∃ x, x = (sub r228.text_ (iquo .i64 at_243 (8 : Int)) (r228.text_.length : Int)) := ⟨_, rfl⟩
    replace hM := lt_to hz249 hM
    refine draw_begin (vals := [some (ptr b229 0), some (ptr b229 0), some (ptr b229 1), some (str r228.text_), some (ptr b229 0), some (ptr b229 0), some (ptr b229 0), some (ptr b229 0), some (.int .i64 at_243), some (.int .i64 (iquo .i64 at_243 (8 : Int))), some (str (sub r228.text_ (iquo .i64 at_243 (8 : Int)) (r228.text_.length : Int))), some (str rest248)]) hS mixed rfl ?_
    intro l w ho hcl hA hst
    refine phaseE (vals := [some (ptr b229 0), some (ptr b229 0), some (ptr b229 1), some (str r228.text_), some (ptr b229 0), some (ptr b229 0), some (ptr b229 0), some (ptr b229 0), some (.int .i64 at_243), some (.int .i64 (iquo .i64 at_243 (8 : Int))), some (str (sub r228.text_ (iquo .i64 at_243 (8 : Int)) (r228.text_.length : Int))), some (str rest248)]) [] [0, 1, 2, 3, 4, 5, 6, 7, 8, 9, 10, 11] rfl rfl rfl (by exact ⟨nR rfl rfl rfl rfl rfl (by exact ovE (mv rfl) rfl), nR rfl rfl rfl rfl rfl (by exact ovE (nck rfl) rfl), nR rfl rfl rfl rfl rfl (by exact ovE (fad rfl Tryd.runUnderlying65 rfl Tryd.sizeOf9 rfl) rfl), nR rfl rfl rfl rfl rfl (by exact ovE (ldb 0 rfl h245 rfl rfl Tryd.isAgg9) rfl), nR rfl rfl rfl rfl rfl (by exact ovE (mv rfl) rfl), nR rfl rfl rfl rfl rfl (by exact ovE (nck rfl) rfl), nR rfl rfl rfl rfl rfl (by exact ovE (fad rfl Tryd.runUnderlying65 rfl Tryd.sizeOf63 rfl) rfl), nR rfl rfl rfl rfl rfl (by exact ovE (fad rfl Tryd.runUnderlying63 rfl Tryd.sizeOf3 rfl) rfl), nR rfl rfl rfl rfl rfl (by exact ovE (ldb 0 rfl h245 rfl rfl Tryd.isAgg3) rfl), nR rfl rfl rfl rfl rfl (by exact ovE (quo rfl rfl rfl) rfl), nR rfl rfl rfl rfl rfl (by exact ovE (slS rfl Tryd.runUnderlying9 (loS rfl) hi0 hk247) rfl), nR rfl rfl rfl rfl rfl (by exact ovE (asg rfl) (congrArg (str) hz249.symm)), trivial⟩) (fun a w hS => ?_) ho hcl (fun m hm => (List.not_mem_nil hm).elim) hA hst
    replace hS := hS.env2 (e' := [(0, ptr b229 0), (1, .int .i64 n_232), (6, str rest248)]) ⟨rfl, rfl, rfl, trivial⟩
    refine then_n ?_
    refine wp_seq ?_
    refine wp_seq ?_
    refine wp_region_list ?_
    refine st1 hS (mv rfl) rfl fun a w hS => ?_
    refine st1 hS (mv rfl) rfl fun a w hS => ?_
    refine st1 hS (lenS rfl Tryd.runUnderlying9) rfl fun a w hS => ?_
    refine st1 hS (bin rfl rfl rfl) rfl fun a w hS => ?_
    refine wpList_nil ?_
    refine then_n ?_
    refine s_cond hS rfl hM (fun hb250 hM => ?_) (fun hb250 hM => ?_)
    · refine wp_seq ?_
      refine wp_region_list ?_
      refine st1 hS (asg rfl) rfl fun a w hS => ?_
      refine st1 hS (asg rfl) rfl fun a w hS => ?_
      refine wpList_nil ?_
      refine then_n ?_
      refine wp_ret ?_
      refine then_ret ?_
      exact s_ret (rs := [4, 5]) hS rfl rfl (hret ([] : List UInt8) (2 : Int) at_243 f244 w hM h245 (hS.st.pick [0] (by kernel_rfl)))
    · refine wp_skip ?_
      refine then_n ?_
      refine wp_seq ?_
      refine wp_region_list ?_
      refine st1 hS (mv rfl) rfl fun a w hS => ?_
      refine st1 hS (nck rfl) rfl fun a w hS => ?_
      refine st1 hS (fad rfl Tryd.runUnderlying65 rfl Tryd.sizeOf63 rfl) rfl fun a w hS => ?_
      refine st1 hS (fad rfl Tryd.runUnderlying63 rfl Tryd.sizeOf3 rfl) rfl fun a w hS => ?_
      refine st1 hS (ldb 0 rfl h245 rfl rfl Tryd.isAgg3) rfl fun a w hS => ?_
      refine st1 hS (mv rfl) rfl fun a w hS => ?_
      refine st1 hS (bin rfl rfl rfl) rfl fun a w hS => ?_
      refine st1 hS (bin rfl rfl rfl) rfl fun a w hS => ?_
      refine st1 hS (nck rfl) rfl fun a w hS => ?_
      refine st1 hS (fad rfl Tryd.runUnderlying65 rfl Tryd.sizeOf63 rfl) rfl fun a w hS => ?_
      refine st1 hS (fad rfl Tryd.runUnderlying63 rfl Tryd.sizeOf3 rfl) rfl fun a w hS => ?_
      refine sto 0 ([.int .i64 (w64 (at_243 + (w64 ((8 : Int) * n_232)))), str r228.text_]) hS rfl rfl h245 rfl rfl rfl rfl Tryd.sizeOf3 fun w f251 hB252 hS => ?_
      refine wpList_nil ?_
      refine then_n ?_
      refine wp_seq ?_
      refine wp_region_list ?_
      refine st1 hS (mv rfl) rfl fun a w hS => ?_
      refine st1 hS (mv rfl) rfl fun a w hS => ?_
      obtain ⟨hk253, hM⟩ := wp_chk hM
      refine st1 hS (slS rfl Tryd.runUnderlying9 lo0 (hiS rfl) hk253) rfl fun a w hS => ?_
      refine st1x (v := str) hS (asg rfl) rfl fun v254 a w hz hS => ?_
      have hM := lt_to hz hM; clear hz
      refine st1 hS (asg rfl) rfl fun a w hS => ?_
      refine wpList_nil ?_
      refine then_n ?_
      refine wp_ret ?_
      exact s_ret (rs := [4, 5]) hS rfl rfl (hret v254 (0 : Int) (w64 (at_243 + (w64 ((8 : Int) * n_232)))) f251 w hM hB252 (hS.st.pick [0] (by kernel_rfl)))

theorem inflate_refuse_c {H : Imm} {F : List Frag} {w : World} {R : Ending → World → Prop} {kr : Unit → Prop} {kp : Value → Prop} (hG : Gl H) (K : Nat) (bad275 : Bool) (e_276 : Int)
    (hS : St w H [] F) (hm : (inflate_refuse.m K bad275 e_276).wp kr kp)
    (hret : ∀ (w : World), kr () → St w H [] F → R (.returned (.tuple ⟨[]⟩)) w)
    (hpan : ∀ v w, kp v → St w H [] F → R (.panicked [⟨v, false, false⟩]) w) :
    Calls Tryd.prog 32 ⟨[.bool bad275, .int .i64 e_276]⟩ w R := by
  refine enter Tryd.func32 rfl Tryd.ntmps32 rfl hS fun a w hS => ?_
  have hM := hm; clear hm
  rw [inflate_refuse.m] at hM
  refine wp_seq ?_
  refine wp_region_list ?_
  refine st1 hS (mv rfl) rfl fun a w hS => ?_
  refine wpList_nil ?_
  refine then_n ?_
  refine s_cond hS rfl hM (fun hb277 hM => ?_) (fun hb277 hM => ?_)
  · refine wp_region_list ?_
    refine st1 hS (mv rfl) rfl fun a w hS => ?_
    refine st1 hS (bld ([.int .i64 e_276]) [(0, 1)] Tryd.zeroValue46 Tryd.runUnderlying46 (by intro w; simp [Tryd.sizeOf23]) rfl rfl) rfl fun a w hS => ?_
    refine st1 hS (mkI rfl Tryd.runUnderlying46 rfl) rfl fun a w hS => ?_
    refine s_panic hS rfl ?_
    exact ⟨hS.ev.defs, hpan _ _ hM hS.st.frame⟩
  · refine wp_skip ?_
    exact s_end (rs := []) hS rfl rfl (hret w hM (hS.st.pick [] (by kernel_rfl)))

theorem inflate_reader_stored_c {H : Imm} {F : List Frag} {w : World} {R : Ending → World → Prop} {kr : (Int × (List Int)) → Prop} {kp : Value → Prop} (hG : Gl H) (K : Nat) (r217 : T_inflate_reader) (b218 : Nat) (f219 : Frag) (b221 : Nat) (f222 : Frag) (A224 : Option Addr) (c225 : Nat) (f226 : Frag) (hB220 : Blk f219 b218 ([ptr b221 0, .slice A224 r217.out_.length c225, .int .i64 r217.limit_]) 51) (hB223 : Blk f222 b221 ([.int .i64 r217.Reader_.place_.at_, str r217.Reader_.text_]) 65) (hV227 : Vec 5 (ci .u8) 1 A224 r217.out_ c225 f226)
    (hS : St w H [f219, f222, f226] F) (hm : (inflate_reader_stored.m K r217).wp kr kp)
    (hret : ∀ (at_291 : Int) (f292 : Frag) (A294 : Option Addr) (c295 : Nat) (out296 : (List Int)) (f297 : Frag) (f299 : Frag) (w : World), kr (at_291, out296) → (Blk f292 b221 ([.int .i64 at_291, str r217.Reader_.text_]) 65) → (Vec 5 (ci .u8) 1 A294 out296 c295 f297) → (Blk f299 b218 ([ptr b221 0, .slice A294 out296.length c295, .int .i64 r217.limit_]) 51) → St w H [f299, f292, f297] F → R (.returned (.tuple ⟨[]⟩)) w)
    (hpan : ∀ v w, kp v → St w H [] F → R (.panicked [⟨v, false, false⟩]) w) :
    Calls Tryd.prog 28 ⟨[ptr b218 0]⟩ w R := by
  refine enter Tryd.func28 rfl Tryd.ntmps28 rfl hS fun a w hS => ?_
  have hM := hm; clear hm
  rw [inflate_reader_stored.m] at hM
  refine wp_seq ?_
  refine wp_region_list ?_
  refine st1 hS (mv rfl) rfl fun a w hS => ?_
  refine st1 hS (nck rfl) rfl fun a w hS => ?_
  refine st1 hS (fad rfl Tryd.runUnderlying51 rfl Tryd.sizeOf48 rfl) rfl fun a w hS => ?_
  refine st1 hS (ldb 0 rfl hB220 rfl rfl Tryd.isAgg48) rfl fun a w hS => ?_
  refine s_call hS rfl Tryd.call41 (bits_Reader_Bytes_c hG K r217.Reader_ (4 : Int) b221 f222 hB223 (hS.st.part 1 [1, 0, 2] (by kernel_rfl)) (wp_bind hM) (fun x260 x261 at_262 f263 w hM h264 hst => s_back hS.ev hst.appF rfl fun hS => ?_))
  replace hS : Ss _ _ _ H [f263, f219, f226] F _ _ := hS
  refine st1 hS (mv rfl) rfl fun a w hS => ?_
  refine st1 hS (ex rfl rfl) rfl fun a w hS => ?_
  refine st1 hS (ex rfl rfl) rfl fun a w hS => ?_
  refine st1 hS (asg rfl) rfl fun a w hS => ?_
  refine st1 hS (asg rfl) rfl fun a w hS => ?_
  refine wpList_nil ?_
  refine then_n ?_
  refine wp_seq ?_
  refine wp_region_list ?_
  refine st1 hS (mv rfl) rfl fun a w hS => ?_
  refine s_call hS rfl Tryd.call40 (inflate_must_c hG K x261 (hS.st.part 0 [0, 1, 2] (by kernel_rfl)) (wp_bind hM) (fun  w hM  hst => s_back hS.ev hst.appF rfl fun hS => ?_) (fun v w hk hst => s_pan (then_pan (⟨hS.ev.defs, hpan _ _ hk hst.appF.frame⟩))))
  replace hS : Ss _ _ _ H [f263, f219, f226] F _ _ := hS
  refine wpList_nil ?_
  refine then_n ?_
  refine wp_seq ?_
  obtain ⟨hk266, hM⟩ := wp_chk hM
  obtain ⟨hk268, hM⟩ := wp_chk hM
  obtain ⟨n_269, hz270⟩ : ∃ x, x = (ior .i64 (wr .i64 ((rd x260 (0 : Int)).toNat : Int)) (ishl .i64 (wr .i64 ((rd x260 (1 : Int)).toNat : Int)) (8 : Int))) := ⟨_, rfl⟩
  replace hM := lt_to hz270 hM
  refine draw_begin (vals := [some (str x260), some (.int .u8 ((rd x260 (0 : Int)).toNat : Int)), some (.int .i64 (wr .i64 ((rd x260 (0 : Int)).toNat : Int))), some (str x260), some (.int .u8 ((rd x260 (1 : Int)).toNat : Int)), some (.int .i64 (wr .i64 ((rd x260 (1 : Int)).toNat : Int))), some (.int .i64 (ishl .i64 (wr .i64 ((rd x260 (1 : Int)).toNat : Int)) (8 : Int))), some (.int .i64 (ior .i64 (wr .i64 ((rd x260 (0 : Int)).toNat : Int)) (ishl .i64 (wr .i64 ((rd x260 (1 : Int)).toNat : Int)) (8 : Int)))), some (.int .i64 n_269)]) hS mixed rfl ?_
  intro l w ho hcl hA hst
  refine phaseE (vals := [some (str x260), some (.int .u8 ((rd x260 (0 : Int)).toNat : Int)), some (.int .i64 (wr .i64 ((rd x260 (0 : Int)).toNat : Int))), some (str x260), some (.int .u8 ((rd x260 (1 : Int)).toNat : Int)), some (.int .i64 (wr .i64 ((rd x260 (1 : Int)).toNat : Int))), some (.int .i64 (ishl .i64 (wr .i64 ((rd x260 (1 : Int)).toNat : Int)) (8 : Int))), some (.int .i64 (ior .i64 (wr .i64 ((rd x260 (0 : Int)).toNat : Int)) (ishl .i64 (wr .i64 ((rd x260 (1 : Int)).toNat : Int)) (8 : Int)))), some (.int .i64 n_269)]) [] [0, 1, 2, 3, 4, 5, 6, 7, 8] rfl rfl rfl (by exact ⟨nR rfl rfl rfl rfl rfl (by exact ovE (mv rfl) rfl), nR rfl rfl rfl rfl rfl (by exact ovE (ixs rfl rfl Tryd.runUnderlying9 hk266) rfl), nR rfl rfl rfl rfl rfl (by exact ovE (cvi rfl Tryd.runUnderlying5 Tryd.runUnderlying3) rfl), nR rfl rfl rfl rfl rfl (by exact ovE (mv rfl) rfl), nR rfl rfl rfl rfl rfl (by exact ovE (ixs rfl rfl Tryd.runUnderlying9 hk268) rfl), nR rfl rfl rfl rfl rfl (by exact ovE (cvi rfl Tryd.runUnderlying5 Tryd.runUnderlying3) rfl), nR rfl rfl rfl rfl rfl (by exact ovE (shl rfl rfl rfl) rfl), nR rfl rfl rfl rfl rfl (by exact ovE (bin rfl rfl rfl) rfl), nR rfl rfl rfl rfl rfl (by exact ovE (asg rfl) (congrArg (Value.int .i64) hz270.symm)), trivial⟩) (fun a w hS => ?_) ho hcl (fun m hm => (List.not_mem_nil hm).elim) hA hst
  replace hS := hS.env2 (e' := [(0, ptr b218 0), (2, str x260), (4, .int .i64 n_269)]) ⟨rfl, rfl, rfl, trivial⟩
  refine then_n ?_
  refine wp_seq ?_
  obtain ⟨hk272, hM⟩ := wp_chk hM
  obtain ⟨hk274, hM⟩ := wp_chk hM
  refine draw_begin (vals := [some (str x260), some (.int .u8 ((rd x260 (2 : Int)).toNat : Int)), some (.int .i64 (wr .i64 ((rd x260 (2 : Int)).toNat : Int))), some (str x260), some (.int .u8 ((rd x260 (3 : Int)).toNat : Int)), some (.int .i64 (wr .i64 ((rd x260 (3 : Int)).toNat : Int))), some (.int .i64 (ishl .i64 (wr .i64 ((rd x260 (3 : Int)).toNat : Int)) (8 : Int))), some (.int .i64 (ior .i64 (wr .i64 ((rd x260 (2 : Int)).toNat : Int)) (ishl .i64 (wr .i64 ((rd x260 (3 : Int)).toNat : Int)) (8 : Int)))), some (.int .i64 n_269), some (.int .i64 (ixor .i64 n_269 (65535 : Int))), some (.bool ((ior .i64 (wr .i64 ((rd x260 (2 : Int)).toNat : Int)) (ishl .i64 (wr .i64 ((rd x260 (3 : Int)).toNat : Int)) (8 : Int))) != (ixor .i64 n_269 (65535 : Int)))), none]) hS mixed rfl ?_
  intro l w ho hcl hA hst
  refine phase' (vals := [some (str x260), some (.int .u8 ((rd x260 (2 : Int)).toNat : Int)), some (.int .i64 (wr .i64 ((rd x260 (2 : Int)).toNat : Int))), some (str x260), some (.int .u8 ((rd x260 (3 : Int)).toNat : Int)), some (.int .i64 (wr .i64 ((rd x260 (3 : Int)).toNat : Int))), some (.int .i64 (ishl .i64 (wr .i64 ((rd x260 (3 : Int)).toNat : Int)) (8 : Int))), some (.int .i64 (ior .i64 (wr .i64 ((rd x260 (2 : Int)).toNat : Int)) (ishl .i64 (wr .i64 ((rd x260 (3 : Int)).toNat : Int)) (8 : Int)))), some (.int .i64 n_269), some (.int .i64 (ixor .i64 n_269 (65535 : Int))), some (.bool ((ior .i64 (wr .i64 ((rd x260 (2 : Int)).toNat : Int)) (ishl .i64 (wr .i64 ((rd x260 (3 : Int)).toNat : Int)) (8 : Int))) != (ixor .i64 n_269 (65535 : Int)))), none]) 11 [] [0, 1, 2, 3, 4, 5, 6, 7, 8, 9, 10] rfl rfl rfl rfl (by exact ⟨nR rfl rfl rfl rfl rfl (by exact ovE (mv rfl) rfl), nR rfl rfl rfl rfl rfl (by exact ovE (ixs rfl rfl Tryd.runUnderlying9 hk272) rfl), nR rfl rfl rfl rfl rfl (by exact ovE (cvi rfl Tryd.runUnderlying5 Tryd.runUnderlying3) rfl), nR rfl rfl rfl rfl rfl (by exact ovE (mv rfl) rfl), nR rfl rfl rfl rfl rfl (by exact ovE (ixs rfl rfl Tryd.runUnderlying9 hk274) rfl), nR rfl rfl rfl rfl rfl (by exact ovE (cvi rfl Tryd.runUnderlying5 Tryd.runUnderlying3) rfl), nR rfl rfl rfl rfl rfl (by exact ovE (shl rfl rfl rfl) rfl), nR rfl rfl rfl rfl rfl (by exact ovE (bin rfl rfl rfl) rfl), nR rfl rfl rfl rfl rfl (by exact ovE (mv rfl) rfl), nR rfl rfl rfl rfl rfl (by exact ovE (bin rfl rfl rfl) rfl), nR rfl rfl rfl rfl rfl (by exact ovE (bin rfl rfl rfl) rfl), trivial⟩) (fun D l a w ho hcl hav hpre hm hE hk hA hst => ?_) ho hcl (fun j hj => (List.not_mem_nil hj).elim) (fun m hm => (List.not_mem_nil hm).elim) List.not_mem_nil hA hst
  have hS := (Ss.mk hE hst).env2 (e' := [(34, .bool ((ior .i64 (wr .i64 ((rd x260 (2 : Int)).toNat : Int)) (ishl .i64 (wr .i64 ((rd x260 (3 : Int)).toNat : Int)) (8 : Int))) != (ixor .i64 n_269 (65535 : Int))))]) ⟨rfl, trivial⟩
  refine op_of_nth rfl ?_
  refine s_call hS rfl Tryd.call32 (inflate_refuse_c hG K ((ior .i64 (wr .i64 ((rd x260 (2 : Int)).toNat : Int)) (ishl .i64 (wr .i64 ((rd x260 (3 : Int)).toNat : Int)) (8 : Int))) != (ixor .i64 n_269 (65535 : Int))) (3 : Int) (hS.st.part 0 [0, 1, 2] (by kernel_rfl)) (wp_bind hM) (fun  w hM  hst => s_back hS.ev hst.appF rfl fun hS => ?_) (fun v w hk hst => s_pan (then_pan (then_pan (⟨hS.ev.defs, hpan _ _ hk hst.appF.frame⟩)))))
  replace hS : Ss _ _ _ H [f263, f219, f226] F _ _ := hS
  refine wpList_nil (then_n ?_)
  have hcl2 := hcl.cons (k := 11) (nth_get rfl) hpre
  have hmust := must_cons (k := 11) hm (chain (k := 11) hcl (nth_get rfl) hpre [(10, 11), (7, 10), (9, 10), (2, 7), (6, 7), (8, 9), (1, 2), (5, 6), (0, 1), (4, 5), (3, 4)] [] rfl (fun _ h => absurd h List.not_mem_nil))
  replace hst := hS.st
  have hav2 := hav.cons (vals' := [some (str x260), some (.int .u8 ((rd x260 (2 : Int)).toNat : Int)), some (.int .i64 (wr .i64 ((rd x260 (2 : Int)).toNat : Int))), some (str x260), some (.int .u8 ((rd x260 (3 : Int)).toNat : Int)), some (.int .i64 (wr .i64 ((rd x260 (3 : Int)).toNat : Int))), some (.int .i64 (ishl .i64 (wr .i64 ((rd x260 (3 : Int)).toNat : Int)) (8 : Int))), some (.int .i64 (ior .i64 (wr .i64 ((rd x260 (2 : Int)).toNat : Int)) (ishl .i64 (wr .i64 ((rd x260 (3 : Int)).toNat : Int)) (8 : Int)))), some (.int .i64 n_269), some (.int .i64 (ixor .i64 n_269 (65535 : Int))), some (.bool ((ior .i64 (wr .i64 ((rd x260 (2 : Int)).toNat : Int)) (ishl .i64 (wr .i64 ((rd x260 (3 : Int)).toNat : Int)) (8 : Int))) != (ixor .i64 n_269 (65535 : Int)))), some (.tuple ⟨[]⟩)]) (k := 11) ⟨rfl, rfl, rfl, rfl, rfl, rfl, rfl, rfl, rfl, rfl, rfl, trivial⟩ rfl
  replace hA := (hA.next hav (subV.get (l' := [some (str x260), some (.int .u8 ((rd x260 (2 : Int)).toNat : Int)), some (.int .i64 (wr .i64 ((rd x260 (2 : Int)).toNat : Int))), some (str x260), some (.int .u8 ((rd x260 (3 : Int)).toNat : Int)), some (.int .i64 (wr .i64 ((rd x260 (3 : Int)).toNat : Int))), some (.int .i64 (ishl .i64 (wr .i64 ((rd x260 (3 : Int)).toNat : Int)) (8 : Int))), some (.int .i64 (ior .i64 (wr .i64 ((rd x260 (2 : Int)).toNat : Int)) (ishl .i64 (wr .i64 ((rd x260 (3 : Int)).toNat : Int)) (8 : Int)))), some (.int .i64 n_269), some (.int .i64 (ixor .i64 n_269 (65535 : Int))), some (.bool ((ior .i64 (wr .i64 ((rd x260 (2 : Int)).toNat : Int)) (ishl .i64 (wr .i64 ((rd x260 (3 : Int)).toNat : Int)) (8 : Int))) != (ixor .i64 n_269 (65535 : Int)))), some (.tuple ⟨[]⟩)]) ⟨rfl, rfl, rfl, rfl, rfl, rfl, rfl, rfl, rfl, rfl, rfl, trivial⟩)).step rfl (nth_get rfl) hk rfl rfl rfl
  clear hm hav
  replace hcl := hcl2
  refine phaseE (vals := [some (str x260), some (.int .u8 ((rd x260 (2 : Int)).toNat : Int)), some (.int .i64 (wr .i64 ((rd x260 (2 : Int)).toNat : Int))), some (str x260), some (.int .u8 ((rd x260 (3 : Int)).toNat : Int)), some (.int .i64 (wr .i64 ((rd x260 (3 : Int)).toNat : Int))), some (.int .i64 (ishl .i64 (wr .i64 ((rd x260 (3 : Int)).toNat : Int)) (8 : Int))), some (.int .i64 (ior .i64 (wr .i64 ((rd x260 (2 : Int)).toNat : Int)) (ishl .i64 (wr .i64 ((rd x260 (3 : Int)).toNat : Int)) (8 : Int)))), some (.int .i64 n_269), some (.int .i64 (ixor .i64 n_269 (65535 : Int))), some (.bool ((ior .i64 (wr .i64 ((rd x260 (2 : Int)).toNat : Int)) (ishl .i64 (wr .i64 ((rd x260 (3 : Int)).toNat : Int)) (8 : Int))) != (ixor .i64 n_269 (65535 : Int)))), some (.tuple ⟨[]⟩)]) [11, 10, 7, 9, 2, 6, 8, 1, 5, 0, 4, 3] [] rfl rfl rfl trivial (fun a w hS => ?_) ho hcl hmust hA hst
  replace hS := hS.env2 (e' := [(0, ptr b218 0), (4, .int .i64 n_269)]) ⟨rfl, rfl, trivial⟩
  refine then_n ?_
  refine wp_seq ?_
  refine wp_region_list ?_
  refine st1 hS (mv rfl) rfl fun a w hS => ?_
  refine st1 hS (nck rfl) rfl fun a w hS => ?_
  refine st1 hS (fad rfl Tryd.runUnderlying51 rfl Tryd.sizeOf48 rfl) rfl fun a w hS => ?_
  refine st1 hS (ldb 1 rfl hB220 rfl rfl Tryd.isAgg48) rfl fun a w hS => ?_
  refine st1 hS (mv rfl) rfl fun a w hS => ?_
  refine s_call hS rfl Tryd.call41 (bits_Reader_Bytes_c hG K (T_bits_Reader.mk (T_bits_place.mk at_262) r217.Reader_.text_) n_269 b221 f263 h264 (hS.st.part 1 [0, 1, 2] (by kernel_rfl)) (wp_bind hM) (fun x278 x279 at_280 f281 w hM h282 hst => s_back hS.ev hst.appF rfl fun hS => ?_))
  replace hS : Ss _ _ _ H [f281, f219, f226] F _ _ := hS
  refine st1 hS (mv rfl) rfl fun a w hS => ?_
  refine st1 hS (ex rfl rfl) rfl fun a w hS => ?_
  refine st1 hS (ex rfl rfl) rfl fun a w hS => ?_
  refine st1 hS (asg rfl) rfl fun a w hS => ?_
  refine st1 hS (asg rfl) rfl fun a w hS => ?_
  refine wpList_nil ?_
  refine then_n ?_
  refine wp_seq ?_
  refine wp_region_list ?_
  refine st1 hS (mv rfl) rfl fun a w hS => ?_
  refine s_call hS rfl Tryd.call40 (inflate_must_c hG K x279 (hS.st.part 0 [0, 1, 2] (by kernel_rfl)) (wp_bind hM) (fun  w hM  hst => s_back hS.ev hst.appF rfl fun hS => ?_) (fun v w hk hst => s_pan (then_pan (⟨hS.ev.defs, hpan _ _ hk hst.appF.frame⟩))))
  replace hS : Ss _ _ _ H [f281, f219, f226] F _ _ := hS
  refine wpList_nil ?_
  refine then_n ?_
  refine wp_seq ?_
  refine draw_begin (vals := [some (ptr b218 0), some (ptr b218 0), some (ptr b218 1), some (.slice A224 r217.out_.length c225), some (.int .i64 (r217.out_.length : Int)), some (.int .i64 n_269), some (.int .i64 (w64 ((r217.out_.length : Int) + n_269))), some (ptr b218 0), some (ptr b218 0), some (ptr b218 2), some (.int .i64 r217.limit_), some (.bool (decide ((w64 ((r217.out_.length : Int) + n_269)) > r217.limit_))), none]) hS mixed rfl ?_
  intro l w ho hcl hA hst
  refine phase' (vals := [some (ptr b218 0), some (ptr b218 0), some (ptr b218 1), some (.slice A224 r217.out_.length c225), some (.int .i64 (r217.out_.length : Int)), some (.int .i64 n_269), some (.int .i64 (w64 ((r217.out_.length : Int) + n_269))), some (ptr b218 0), some (ptr b218 0), some (ptr b218 2), some (.int .i64 r217.limit_), some (.bool (decide ((w64 ((r217.out_.length : Int) + n_269)) > r217.limit_))), none]) 12 [] [0, 1, 2, 3, 4, 5, 6, 7, 8, 9, 10, 11] rfl rfl rfl rfl (by exact ⟨nR rfl rfl rfl rfl rfl (by exact ovE (mv rfl) rfl), nR rfl rfl rfl rfl rfl (by exact ovE (nck rfl) rfl), nR rfl rfl rfl rfl rfl (by exact ovE (fad rfl Tryd.runUnderlying51 rfl Tryd.sizeOf27 rfl) rfl), nR rfl rfl rfl rfl rfl (by exact ovE (ldb 1 rfl hB220 rfl rfl Tryd.isAgg27) rfl), nR rfl rfl rfl rfl rfl (by exact ovE (lenV rfl Tryd.runUnderlying27) rfl), nR rfl rfl rfl rfl rfl (by exact ovE (mv rfl) rfl), nR rfl rfl rfl rfl rfl (by exact ovE (bin rfl rfl rfl) rfl), nR rfl rfl rfl rfl rfl (by exact ovE (mv rfl) rfl), nR rfl rfl rfl rfl rfl (by exact ovE (nck rfl) rfl), nR rfl rfl rfl rfl rfl (by exact ovE (fad rfl Tryd.runUnderlying51 rfl Tryd.sizeOf3 rfl) rfl), nR rfl rfl rfl rfl rfl (by exact ovE (ldb 1 rfl hB220 rfl rfl Tryd.isAgg3) rfl), nR rfl rfl rfl rfl rfl (by exact ovE (bin rfl rfl rfl) rfl), trivial⟩) (fun D l a w ho hcl hav hpre hm hE hk hA hst => ?_) ho hcl (fun j hj => (List.not_mem_nil hj).elim) (fun m hm => (List.not_mem_nil hm).elim) List.not_mem_nil hA hst
  have hS := (Ss.mk hE hst).env2 (e' := [(58, .bool (decide ((w64 ((r217.out_.length : Int) + n_269)) > r217.limit_)))]) ⟨rfl, trivial⟩
  refine op_of_nth rfl ?_
  refine s_call hS rfl Tryd.call32 (inflate_refuse_c hG K (decide ((w64 ((r217.out_.length : Int) + n_269)) > r217.limit_)) (11 : Int) (hS.st.part 0 [0, 1, 2] (by kernel_rfl)) (wp_bind hM) (fun  w hM  hst => s_back hS.ev hst.appF rfl fun hS => ?_) (fun v w hk hst => s_pan (then_pan (then_pan (⟨hS.ev.defs, hpan _ _ hk hst.appF.frame⟩)))))
  replace hS : Ss _ _ _ H [f281, f219, f226] F _ _ := hS
  refine wpList_nil (then_n ?_)
  have hcl2 := hcl.cons (k := 12) (nth_get rfl) hpre
  have hmust := must_cons (k := 12) hm (chain (k := 12) hcl (nth_get rfl) hpre [(11, 12), (6, 11), (10, 11), (4, 6), (5, 6), (9, 10), (3, 4), (8, 9), (2, 3), (7, 8), (1, 2), (0, 1)] [] rfl (fun _ h => absurd h List.not_mem_nil))
  replace hst := hS.st
  have hav2 := hav.cons (vals' := [some (ptr b218 0), some (ptr b218 0), some (ptr b218 1), some (.slice A224 r217.out_.length c225), some (.int .i64 (r217.out_.length : Int)), some (.int .i64 n_269), some (.int .i64 (w64 ((r217.out_.length : Int) + n_269))), some (ptr b218 0), some (ptr b218 0), some (ptr b218 2), some (.int .i64 r217.limit_), some (.bool (decide ((w64 ((r217.out_.length : Int) + n_269)) > r217.limit_))), some (.tuple ⟨[]⟩)]) (k := 12) ⟨rfl, rfl, rfl, rfl, rfl, rfl, rfl, rfl, rfl, rfl, rfl, rfl, trivial⟩ rfl
  replace hA := (hA.next hav (subV.get (l' := [some (ptr b218 0), some (ptr b218 0), some (ptr b218 1), some (.slice A224 r217.out_.length c225), some (.int .i64 (r217.out_.length : Int)), some (.int .i64 n_269), some (.int .i64 (w64 ((r217.out_.length : Int) + n_269))), some (ptr b218 0), some (ptr b218 0), some (ptr b218 2), some (.int .i64 r217.limit_), some (.bool (decide ((w64 ((r217.out_.length : Int) + n_269)) > r217.limit_))), some (.tuple ⟨[]⟩)]) ⟨rfl, rfl, rfl, rfl, rfl, rfl, rfl, rfl, rfl, rfl, rfl, rfl, trivial⟩)).step rfl (nth_get rfl) hk rfl rfl rfl
  clear hm hav
  replace hcl := hcl2
  refine phaseE (vals := [some (ptr b218 0), some (ptr b218 0), some (ptr b218 1), some (.slice A224 r217.out_.length c225), some (.int .i64 (r217.out_.length : Int)), some (.int .i64 n_269), some (.int .i64 (w64 ((r217.out_.length : Int) + n_269))), some (ptr b218 0), some (ptr b218 0), some (ptr b218 2), some (.int .i64 r217.limit_), some (.bool (decide ((w64 ((r217.out_.length : Int) + n_269)) > r217.limit_))), some (.tuple ⟨[]⟩)]) [12, 11, 6, 10, 4, 5, 9, 3, 8, 2, 7, 1, 0] [] rfl rfl rfl trivial (fun a w hS => ?_) ho hcl hmust hA hst
  replace hS := hS.env2 (e' := [(0, ptr b218 0), (5, str x278)]) ⟨rfl, rfl, trivial⟩
  refine then_n ?_
  refine wp_region_list ?_
  refine st1 hS (mv rfl) rfl fun a w hS => ?_
  refine st1 hS (mv rfl) rfl fun a w hS => ?_
  refine st1 hS (nck rfl) rfl fun a w hS => ?_
  refine st1 hS (fad rfl Tryd.runUnderlying51 rfl Tryd.sizeOf27 rfl) rfl fun a w hS => ?_
  refine st1 hS (ldb 1 rfl hB220 rfl rfl Tryd.isAgg27) rfl fun a w hS => ?_
  refine st1 hS (mv rfl) rfl fun a w hS => ?_
  obtain ⟨hk283, hM⟩ := wp_chk hM
  refine apS 2 hS rfl rfl hV227 rfl Tryd.runUnderlying27 Tryd.runUnderlying9 X.el5 rfl hk283 rfl fun zs288 w A284 c285 f286 hz hV287 hS => ?_
  have hM := lt_to hz hM; clear hz
  refine st1 hS (nck rfl) rfl fun a w hS => ?_
  refine st1 hS (fad rfl Tryd.runUnderlying51 rfl Tryd.sizeOf27 rfl) rfl fun a w hS => ?_
  refine sto 1 ([ptr b221 0, .slice A284 zs288.length c285, .int .i64 r217.limit_]) hS rfl rfl hB220 rfl rfl rfl rfl Tryd.sizeOf27 fun w f289 hB290 hS => ?_
  refine wpList_nil ?_
  exact s_end (rs := []) hS rfl rfl (hret at_280 f281 A284 c285 zs288 f286 f289 w hM h282 hV287 hB290 (hS.st.pick [1, 0, 2] (by kernel_rfl)))

theorem huff_count_c {H : Imm} {F : List Frag} {w : World} {R : Ending → World → Prop} {kr : ((List Int) × Bool) → Prop} {kp : Value → Prop} (hG : Gl H) (K : Nat) (lengths426 : List Int) (A427 : Option Addr) (c428 : Nat) (hr429 : Rdl H [] F (ci .i64) A427 lengths426) (hc430 : lengths426.length ≤ c428)
    (hS : St w H [] F) (hm : (huff_count.m K lengths426).wp kr kp)
    (hret : ∀ (x484 : (List Int)) (x486 : Bool) (w : World), kr (x484, x486) → (x484.length = 16) → St w H [] F → R (.returned (.tuple ⟨[.agg ⟨x484.flatMap (ci .i64)⟩, .bool x486]⟩)) w) :
    Calls Tryd.prog 62 ⟨[.slice A427 lengths426.length c428]⟩ w R := by
  refine enter Tryd.func62 rfl Tryd.ntmps62 rfl hS fun a w hS => ?_
  have hM := hm; clear hm
  rw [huff_count.m] at hM
  refine wp_seq ?_
  refine wp_region_list ?_
  refine alc ((List.replicate 16 (0 : Int)).flatMap (ci .i64)) hS Tryd.zeroValue114 rfl rfl fun w b431 f432 hB433 hS => ?_
  refine st1 hS (asg rfl) rfl fun a w hS => ?_
  refine wpList_nil ?_
  refine then_n ?_
  refine wp_seq ?_
  refine wp_seq ?_
  refine wp_region_list ?_
  refine st1 hS (mv rfl) rfl fun a w hS => ?_
  refine st1 hS (lenV rfl Tryd.runUnderlying74) rfl fun a w hS => ?_
  refine st1 hS (bin rfl rfl rfl) rfl fun a w hS => ?_
  refine wpList_nil ?_
  refine then_n ?_
  refine s_cond hS rfl hM (fun hb434 hM => ?_) (fun hb434 hM => ?_)
  · refine wp_seq ?_
    refine wp_region_list ?_
    refine st1 hS (ldAr (xs := (List.replicate 16 (0 : Int))) (g := (ci .i64)) (pre := []) (post := []) 0 rfl hB433 rfl (by simp) rfl (flat_ln (g := (ci .i64)) (sz := 1) (fun _ => rfl) (List.length_replicate ..)) Tryd.isAgg114 Tryd.sizeOf114) rfl fun a w hS => ?_
    refine stAr (xs := (List.replicate 16 (0 : Int))) (ys := (List.replicate 16 (0 : Int))) (g := (ci .i64)) (pre := []) (post := []) 0 hS rfl rfl hB433 rfl (by simp) rfl (flat_ln (g := (ci .i64)) (sz := 1) (fun _ => rfl) (List.length_replicate ..)) (flat_ln (g := (ci .i64)) (sz := 1) (fun _ => rfl) (List.length_replicate ..)) (one_t3) Tryd.sizeOf114 fun w f435 hB436 hS => ?_
    replace hB436 : Blk f435 b431 ((List.replicate 16 (0 : Int)).flatMap (ci .i64)) 114 := by simpa using hB436
    refine st1 hS (asg rfl) rfl fun a w hS => ?_
    refine wpList_nil ?_
    refine then_n ?_
    refine wp_ret ?_
    refine then_ret ?_
    exact s_retC (vs := [.agg ⟨(List.replicate 16 (0 : Int)).flatMap (ci .i64)⟩, .bool false]) hS rfl (by exact ⟨rvR 0 rfl hB436 rfl (flat_ln (g := (ci .i64)) (sz := 1) (fun _ => rfl) (List.length_replicate ..)) Tryd.isAgg114 Tryd.sizeOf114, rvT rfl, trivial⟩) (hret (List.replicate 16 (0 : Int)) false w hM (List.length_replicate ..) (hS.st.pick [] (by kernel_rfl)))
  · refine wp_skip ?_
    refine then_n ?_
    refine seq_joinJ (fun a w => ∃ (c_473 : (List Int)) (f475 : Frag), Ss 31 [] [(2, ptr b431 0)] H [f475] F a w ∧ (c_473.length = 16) ∧ (Blk f475 b431 (c_473.flatMap (ci .i64)) 114) ∧ (huff_count.j2 K c_473).wp kr kp) (fun J477 hJ477 => ?_) ?_
    · refine wp_seq ?_
      refine wp_region_list ?_
      refine st1 hS (mv rfl) rfl fun a w hS => ?_
      refine st1 hS (lenV rfl Tryd.runUnderlying74) rfl fun a w hS => ?_
      refine st1 hS (mv rfl) rfl fun a w hS => ?_
      refine wpList_nil ?_
      refine then_n ?_
      refine wp_block ?_
      refine s_loopJ (fun k460 a w => ∃ (c_455 : (List Int)) (f457 : Frag) (v459 : Int), Ss 31 [] [(2, ptr b431 0), (10, .slice A427 lengths426.length c428), (11, .int .i64 (lengths426.length : Int)), (12, .int .i64 v459)] H [f457] F a w ∧ (c_455.length = 16) ∧ (Blk f457 b431 (c_455.flatMap (ci .i64)) 114) ∧ (huff_count.l1 K lengths426 k460 c_455 v459).wp kr kp) K ?_ ?_ ?_
      · exact ⟨(List.replicate 16 (0 : Int)), f432, (0 : Int), hS.to [0] (by kernel_rfl) ⟨rfl, rfl, rfl, rfl, trivial⟩, (List.length_replicate ..), hB433, hM⟩
      · intro a w hI; obtain ⟨_, _, _, _, _, _, hM⟩ := hI; exact hM
      · intro k460 a w hI J472 hJ472
        obtain ⟨c_455, f457, v459, hS, hl456, hB458, hM⟩ := hI
        rw [huff_count.l1] at hM
        refine wp_seq ?_
        refine wp_region_list ?_
        refine st1 hS (bin rfl rfl rfl) rfl fun a w hS => ?_
        refine wpList_nil ?_
        refine then_n ?_
        refine wp_seq ?_
        refine s_cond hS rfl hM (fun hb461 hM => ?_) (fun hb461 hM => ?_)
        · refine wp_skip ?_
          refine then_n ?_
          refine wp_seq ?_
          refine wp_block ?_
          refine wp_seq ?_
          refine wp_region_list ?_
          obtain ⟨hk462, hM⟩ := wp_chk hM
          refine st1 hS (ixV rfl rfl Tryd.runUnderlying74 Tryd.sizeOf3 hr429.wk (fun _ => rfl) rfl hk462) rfl fun a w hS => ?_
          refine st1 hS (ldV0 rfl hr429.wk (fun _ => rfl) hk462 rfl Tryd.isAgg3) rfl fun a w hS => ?_
          refine st1x (v := Value.int .i64) hS (asg rfl) rfl fun n_463 a w hz hS => ?_
          have hM := lt_to hz hM; clear hz
          refine wpList_nil ?_
          refine then_n ?_
          refine wp_seq ?_
          refine wp_seq ?_
          refine wp_region_list ?_
          refine st1 hS (mv rfl) rfl fun a w hS => ?_
          refine st1 hS (bin rfl rfl rfl) rfl fun a w hS => ?_
          refine st1 hS (mv rfl) rfl fun a w hS => ?_
          refine g_op 2 false 18 (b := (decide (n_463 < (0 : Int)))) (r := (decide (n_463 > (15 : Int)))) hS rfl rfl rfl rfl rfl rfl rfl (fun hb a w hS K hK => ?_) rfl fun a w hS => ?_
          · refine st1g hS rfl rfl rfl hb (mv rfl) rfl fun a w hS => ?_
            refine st1g hS rfl rfl rfl hb (bin rfl rfl rfl) rfl fun a w hS => ?_
            exact wpList_nil (hK _ _ (hS.up 2 rfl rfl))
          refine wpList_nil ?_
          refine then_n ?_
          refine s_cond hS rfl hM (fun hb464 hM => ?_) (fun hb464 hM => ?_)
          · refine wp_seq ?_
            refine wp_region_list ?_
            refine st1 hS (ldAr (xs := c_455) (g := (ci .i64)) (pre := []) (post := []) 0 rfl hB458 rfl (by simp) rfl (flat_ln (g := (ci .i64)) (sz := 1) (fun _ => rfl) hl456) Tryd.isAgg114 Tryd.sizeOf114) rfl fun a w hS => ?_
            refine stAr (xs := c_455) (ys := c_455) (g := (ci .i64)) (pre := []) (post := []) 0 hS rfl rfl hB458 rfl (by simp) rfl (flat_ln (g := (ci .i64)) (sz := 1) (fun _ => rfl) hl456) (flat_ln (g := (ci .i64)) (sz := 1) (fun _ => rfl) hl456) (one_t3) Tryd.sizeOf114 fun w f465 hB466 hS => ?_
            replace hB466 : Blk f465 b431 (c_455.flatMap (ci .i64)) 114 := by simpa using hB466
            refine st1 hS (asg rfl) rfl fun a w hS => ?_
            refine wpList_nil ?_
            refine then_n ?_
            refine wp_ret ?_
            refine then_ret (blk_ret (then_ret (then_ret (blk_ret (then_ret ?_)))))
            exact s_retC (vs := [.agg ⟨c_455.flatMap (ci .i64)⟩, .bool false]) hS rfl (by exact ⟨rvR 0 rfl hB466 rfl (flat_ln (g := (ci .i64)) (sz := 1) (fun _ => rfl) hl456) Tryd.isAgg114 Tryd.sizeOf114, rvT rfl, trivial⟩) (hret c_455 false w hM hl456 (hS.st.pick [] (by kernel_rfl)))
          · refine wp_skip ?_
            refine then_n ?_
            refine wp_region_list ?_
            refine st1 hS (mv rfl) rfl fun a w hS => ?_
            obtain ⟨hk467, hM⟩ := wp_chk hM
            refine st1 hS (ixB rfl rfl Tryd.runUnderlying114 Tryd.sizeOf3 hk467) rfl fun a w hS => ?_
            refine st1 hS (ldR (xs := c_455) (g := (ci .i64)) (pre := []) (post := []) 0 rfl hB458 rfl (by simp) rfl (fun _ => rfl) (inb_len hl456 hk467) rfl Tryd.isAgg3) rfl fun a w hS => ?_
            refine st1 hS (bin rfl rfl rfl) rfl fun a w hS => ?_
            refine st1 hS (ixB rfl rfl Tryd.runUnderlying114 Tryd.sizeOf3 hk467) rfl fun a w hS => ?_
            refine stR (xs := c_455) (g := (ci .i64)) (pre := []) (post := []) 0 ((w64 ((rd c_455 n_463) + (1 : Int)))) hS rfl rfl hB458 rfl (by simp) rfl (fun _ => rfl) (inb_len hl456 hk467) rfl Tryd.sizeOf3 (one_t3 _) fun zs470 w f468 hz hB469 hS => ?_
            have hl471 : zs470.length = 16 := by rw [hz, List.length_set]; exact hl456
            have hM := lt_to hz hM; clear hz
            replace hB469 : Blk f468 b431 (zs470.flatMap (ci .i64)) 114 := by simpa using hB469
            refine wpList_nil ?_
            refine blk_n (then_n ?_)
            refine wp_region_list ?_
            refine st1 hS (bin rfl rfl rfl) rfl fun a w hS => ?_
            refine st1 hS (mv rfl) rfl fun a w hS => ?_
            refine wpList_nil ?_
            refine then_n ?_
            exact hJ472 _ _ ⟨zs470, f468, (w64 (v459 + (1 : Int))), hS.to [0] (by kernel_rfl) ⟨rfl, rfl, rfl, rfl, trivial⟩, hl471, hB469, hM⟩
        · refine wp_exit ?_
          refine then_ex (then_ex (blk_same (then_n ?_)))
          exact hJ477 _ _ ⟨c_455, f457, hS.to [0] (by kernel_rfl) ⟨rfl, trivial⟩, hl456, hB458, hM⟩
    · intro a w hI
      obtain ⟨c_473, f475, hS, hl474, hB476, hM⟩ := hI
      rw [huff_count.j2] at hM
      refine wp_seq ?_
      refine wp_region_list ?_
      refine st1 hS (ixB rfl rfl Tryd.runUnderlying114 Tryd.sizeOf3 rfl) rfl fun a w hS => ?_
      refine stR (xs := c_473) (g := (ci .i64)) (pre := []) (post := []) 0 ((0 : Int)) hS rfl rfl hB476 rfl (by simp) rfl (fun _ => rfl) (inb_len hl474 rfl) rfl Tryd.sizeOf3 (one_t3 _) fun zs480 w f478 hz hB479 hS => ?_
      have hl481 : zs480.length = 16 := by rw [hz, List.length_set]; exact hl474
      have hM := lt_to hz hM; clear hz
      replace hB479 : Blk f478 b431 (zs480.flatMap (ci .i64)) 114 := by simpa using hB479
      refine wpList_nil ?_
      refine then_n ?_
      refine wp_seq ?_
      refine wp_region_list ?_
      refine st1 hS (ldAr (xs := zs480) (g := (ci .i64)) (pre := []) (post := []) 0 rfl hB479 rfl (by simp) rfl (flat_ln (g := (ci .i64)) (sz := 1) (fun _ => rfl) hl481) Tryd.isAgg114 Tryd.sizeOf114) rfl fun a w hS => ?_
      refine stAr (xs := zs480) (ys := zs480) (g := (ci .i64)) (pre := []) (post := []) 0 hS rfl rfl hB479 rfl (by simp) rfl (flat_ln (g := (ci .i64)) (sz := 1) (fun _ => rfl) hl481) (flat_ln (g := (ci .i64)) (sz := 1) (fun _ => rfl) hl481) (one_t3) Tryd.sizeOf114 fun w f482 hB483 hS => ?_
      replace hB483 : Blk f482 b431 (zs480.flatMap (ci .i64)) 114 := by simpa using hB483
      refine st1 hS (asg rfl) rfl fun a w hS => ?_
      refine wpList_nil ?_
      refine then_n ?_
      refine wp_ret ?_
      exact s_retC (vs := [.agg ⟨zs480.flatMap (ci .i64)⟩, .bool true]) hS rfl (by exact ⟨rvR 0 rfl hB483 rfl (flat_ln (g := (ci .i64)) (sz := 1) (fun _ => rfl) hl481) Tryd.isAgg114 Tryd.sizeOf114, rvT rfl, trivial⟩) (hret zs480 true w hM hl481 (hS.st.pick [] (by kernel_rfl)))

theorem huff_Check_c {H : Imm} {F : List Frag} {w : World} {R : Ending → World → Prop} {kr : Int → Prop} {kp : Value → Prop} (hG : Gl H) (K : Nat) (lengths421 : List Int) (A422 : Option Addr) (c423 : Nat) (hr424 : Rdl H [] F (ci .i64) A422 lengths421) (hc425 : lengths421.length ≤ c423)
    (hS : St w H [] F) (hm : (huff_Check.m K lengths421).wp kr kp)
    (hret : ∀ (x508 : Int) (w : World), kr x508 → St w H [] F → R (.returned (.int .i64 x508)) w) :
    Calls Tryd.prog 61 ⟨[.slice A422 lengths421.length c423]⟩ w R := by
  refine enter Tryd.func61 rfl Tryd.ntmps61 rfl hS fun a w hS => ?_
  have hM := hm; clear hm
  rw [huff_Check.m] at hM
  refine wp_seq ?_
  refine wp_region_list ?_
  refine st1 hS (asg rfl) rfl fun a w hS => ?_
  refine wpList_nil ?_
  refine then_n ?_
  refine wp_seq ?_
  refine wp_region_list ?_
  refine st1 hS (mv rfl) rfl fun a w hS => ?_
  refine s_call hS rfl Tryd.call62 (huff_count_c hG K lengths421 A422 c423 (hr424.app _) hc425 (hS.st.part 0 [] (by kernel_rfl)) (wp_bind hM) (fun x487 x488 w hM h489 hst => s_back hS.ev hst.appF rfl fun hS => ?_))
  replace hS : Ss _ _ _ H [] F _ _ := hS
  refine st1 hS (mv rfl) rfl fun a w hS => ?_
  refine st1 hS (ex rfl rfl) rfl fun a w hS => ?_
  refine st1 hS (ex rfl rfl) rfl fun a w hS => ?_
  refine alc ((List.replicate 16 (0 : Int)).flatMap (ci .i64)) hS Tryd.zeroValue114 rfl rfl fun w b490 f491 hB492 hS => ?_
  refine stAr (xs := (List.replicate 16 (0 : Int))) (ys := x487) (g := (ci .i64)) (pre := []) (post := []) 0 hS rfl rfl hB492 rfl (by simp) rfl (flat_ln (g := (ci .i64)) (sz := 1) (fun _ => rfl) (List.length_replicate ..)) (flat_ln (g := (ci .i64)) (sz := 1) (fun _ => rfl) h489) (one_t3) Tryd.sizeOf114 fun w f493 hB494 hS => ?_
  replace hB494 : Blk f493 b490 (x487.flatMap (ci .i64)) 114 := by simpa using hB494
  refine st1 hS (asg rfl) rfl fun a w hS => ?_
  refine wpList_nil ?_
  refine then_n ?_
  refine wp_seq ?_
  refine wp_seq ?_
  refine wp_region_list ?_
  refine st1 hS (mv rfl) rfl fun a w hS => ?_
  refine st1 hS (un rfl rfl) rfl fun a w hS => ?_
  refine wpList_nil ?_
  refine then_n ?_
  refine s_cond hS rfl hM (fun hb495 hM => ?_) (fun hb495 hM => ?_)
  · refine wp_seq ?_
    refine wp_region_list ?_
    refine st1 hS (asg rfl) rfl fun a w hS => ?_
    refine wpList_nil ?_
    refine then_n ?_
    refine wp_ret ?_
    refine then_ret ?_
    exact s_ret (rs := [2]) hS rfl rfl (hret (1 : Int) w hM (hS.st.pick [] (by kernel_rfl)))
  · refine wp_skip ?_
    refine then_n ?_
    refine wp_seq ?_
    refine wp_region_list ?_
    refine st1 hS (asg rfl) rfl fun a w hS => ?_
    refine wpList_nil ?_
    refine then_n ?_
    refine seq_joinJ (fun a w => ∃ (sum505 : Int), Ss 38 [] [(3, ptr b490 0), (5, .int .i64 sum505)] H [f493] F a w ∧ (huff_Check.j2 K x487 sum505).wp kr kp) (fun J506 hJ506 => ?_) ?_
    · refine wp_seq ?_
      refine wp_region_list ?_
      refine st1 hS (ldAr (xs := x487) (g := (ci .i64)) (pre := []) (post := []) 0 rfl hB494 rfl (by simp) rfl (flat_ln (g := (ci .i64)) (sz := 1) (fun _ => rfl) h489) Tryd.isAgg114 Tryd.sizeOf114) rfl fun a w hS => ?_
      refine st1 hS (mv rfl) rfl fun a w hS => ?_
      refine wpList_nil ?_
      refine then_n ?_
      refine wp_block ?_
      refine s_loopJ (fun k498 a w => ∃ (sum496 : Int) (v497 : Int), Ss 38 [] [(3, ptr b490 0), (5, .int .i64 sum496), (15, .agg ⟨x487.flatMap (ci .i64)⟩), (16, .int .i64 v497)] H [f493] F a w ∧ (huff_Check.l1 K x487 k498 sum496 v497).wp kr kp) K ?_ ?_ ?_
      · exact ⟨(0 : Int), (0 : Int), hS.to [0] (by kernel_rfl) ⟨rfl, rfl, rfl, rfl, trivial⟩, hM⟩
      · intro a w hI; obtain ⟨_, _, _, hM⟩ := hI; exact hM
      · intro k498 a w hI J504 hJ504
        obtain ⟨sum496, v497, hS, hM⟩ := hI
        rw [huff_Check.l1] at hM
        refine wp_seq ?_
        refine wp_region_list ?_
        refine st1 hS (bin rfl rfl rfl) rfl fun a w hS => ?_
        refine wpList_nil ?_
        refine then_n ?_
        refine wp_seq ?_
        refine s_cond hS rfl hM (fun hb499 hM => ?_) (fun hb499 hM => ?_)
        · refine wp_skip ?_
          refine then_n ?_
          refine wp_seq ?_
          refine wp_block ?_
          refine wp_seq ?_
          refine wp_region_list ?_
          refine st1 hS (mv rfl) rfl fun a w hS => ?_
          obtain ⟨hk500, hM⟩ := wp_chk hM
          refine st1 hS (ixA rfl rfl Tryd.runUnderlying114 Tryd.isAgg3 Tryd.sizeOf3 (fun _ => rfl) h489 hk500 rfl) rfl fun a w hS => ?_
          refine st1 hS (asg rfl) rfl fun a w hS => ?_
          refine st1x (v := Value.int .i64) hS (asg rfl) rfl fun k_501 a w hz hS => ?_
          have hM := lt_to hz hM; clear hz
          refine wpList_nil ?_
          refine then_n ?_
          refine wp_region_list ?_
          refine st1 hS (mv rfl) rfl fun a w hS => ?_
          refine st1 hS (mv rfl) rfl fun a w hS => ?_
          refine st1 hS (mv rfl) rfl fun a w hS => ?_
          obtain ⟨hk502, hM⟩ := wp_chk hM
          refine st1 hS (shr rfl rfl hk502) rfl fun a w hS => ?_
          refine st1 hS (bin rfl rfl rfl) rfl fun a w hS => ?_
          refine st1 hS (bin rfl rfl rfl) rfl fun a w hS => ?_
          refine st1x (v := Value.int .i64) hS (asg rfl) rfl fun sum503 a w hz hS => ?_
          have hM := lt_to hz hM; clear hz
          refine wpList_nil ?_
          refine blk_n (then_n ?_)
          refine wp_region_list ?_
          refine st1 hS (bin rfl rfl rfl) rfl fun a w hS => ?_
          refine st1 hS (mv rfl) rfl fun a w hS => ?_
          refine wpList_nil ?_
          refine then_n ?_
          exact hJ504 _ _ ⟨sum503, (w64 (v497 + (1 : Int))), hS.to [0] (by kernel_rfl) ⟨rfl, rfl, rfl, rfl, trivial⟩, hM⟩
        · refine wp_exit ?_
          refine then_ex (then_ex (blk_same (then_n ?_)))
          exact hJ506 _ _ ⟨sum496, hS.to [0] (by kernel_rfl) ⟨rfl, rfl, trivial⟩, hM⟩
    · intro a w hI
      obtain ⟨sum505, hS, hM⟩ := hI
      rw [huff_Check.j2] at hM
      refine wp_seq ?_
      refine wp_seq ?_
      refine wp_region_list ?_
      refine st1 hS (mv rfl) rfl fun a w hS => ?_
      refine st1 hS (bin rfl rfl rfl) rfl fun a w hS => ?_
      refine st1 hS (mv rfl) rfl fun a w hS => ?_
      refine g_op 2 false 29 (b := (sum505 == (0 : Int))) (r := (sum505 == (32768 : Int))) hS rfl rfl rfl rfl rfl rfl rfl (fun hb a w hS K hK => ?_) rfl fun a w hS => ?_
      · refine st1g hS rfl rfl rfl hb (mv rfl) rfl fun a w hS => ?_
        refine st1g hS rfl rfl rfl hb (bin rfl rfl rfl) rfl fun a w hS => ?_
        exact wpList_nil (hK _ _ (hS.up 2 rfl rfl))
      refine st1 hS (mv rfl) rfl fun a w hS => ?_
      refine g_op 3 false 33 (b := ((sum505 == (0 : Int)) || (sum505 == (32768 : Int)))) (r := (x487 == ([0, (1 : Int), 0, 0, 0, 0, 0, 0, 0, 0, 0, 0, 0, 0, 0, 0] : List Int))) hS rfl rfl rfl rfl rfl rfl rfl (fun hb a w hS K hK => ?_) rfl fun a w hS => ?_
      · refine st1g hS rfl rfl rfl hb (ldAr (xs := x487) (g := (ci .i64)) (pre := []) (post := []) 0 rfl hB494 rfl (by simp) rfl (flat_ln (g := (ci .i64)) (sz := 1) (fun _ => rfl) h489) Tryd.isAgg114 Tryd.sizeOf114) rfl fun a w hS => ?_
        refine st1g hS rfl rfl rfl hb (bldAr (([0, (1 : Int), 0, 0, 0, 0, 0, 0, 0, 0, 0, 0, 0, 0, 0, 0] : List Int).flatMap (ci .i64)) Tryd.zeroValue114 Tryd.runUnderlying114 Tryd.sizeOf3 rfl (by kernel_rfl)) rfl fun a w hS => ?_
        refine st1g hS rfl rfl rfl hb (eqArr rfl rfl Tryd.runUnderlying114 Tryd.runUnderlying3 Tryd.sizeOf3 Tryd.isAgg3 h489 rfl Tryd.eqGuardType114 rfl) rfl fun a w hS => ?_
        exact wpList_nil (hK _ _ (hS.up 3 rfl rfl))
      refine wpList_nil ?_
      refine then_n ?_
      refine s_cond hS rfl hM (fun hb507 hM => ?_) (fun hb507 hM => ?_)
      · refine wp_seq ?_
        refine wp_region_list ?_
        refine st1 hS (asg rfl) rfl fun a w hS => ?_
        refine wpList_nil ?_
        refine then_n ?_
        refine wp_ret ?_
        refine then_ret ?_
        exact s_ret (rs := [2]) hS rfl rfl (hret (0 : Int) w hM (hS.st.pick [] (by kernel_rfl)))
      · refine wp_skip ?_
        refine then_n ?_
        refine wp_seq ?_
        refine wp_region_list ?_
        refine st1 hS (asg rfl) rfl fun a w hS => ?_
        refine wpList_nil ?_
        refine then_n ?_
        refine wp_ret ?_
        exact s_ret (rs := [2]) hS rfl rfl (hret (3 : Int) w hM (hS.st.pick [] (by kernel_rfl)))

def T_huff_Table.Own (b651 : Nat) (x652 : T_huff_Table) (f660 : Frag) : Prop :=
  ∃ (f653 : Frag) (A656 : Option Addr) (c657 : Nat) (f658 : Frag), f660 = f653 ++ f658 ∧ Blk f653 b651 ((x652.counts_.flatMap (ci .i64)) ++ [.slice A656 x652.symbols_.length c657]) 116 ∧ x652.counts_.length = 16 ∧ Vec 3 (ci .i64) 1 A656 x652.symbols_ c657 f658

theorem huff_New_c {H : Imm} {F : List Frag} {w : World} {R : Ending → World → Prop} {kr : ((Option T_huff_Table) × Int) → Prop} {kp : Value → Prop} (hG : Gl H) (K : Nat) (lengths416 : List Int) (A417 : Option Addr) (c418 : Nat) (hr419 : Rdl H [] F (ci .i64) A417 lengths416) (hc420 : lengths416.length ≤ c418)
    (hS : St w H [] F) (hm : (huff_New.m K lengths416).wp kr kp)
    (hret : ∀ (A661 : Option Addr) (x662 : Option T_huff_Table) (f663 : Frag) (x665 : Int) (w : World), kr (x662, x665) → (Opt T_huff_Table.Own A661 x662 f663) → St w H [f663] F → R (.returned (.tuple ⟨[.pointer A661, .int .i64 x665]⟩)) w) :
    Calls Tryd.prog 55 ⟨[.slice A417 lengths416.length c418]⟩ w R := by
  refine enter Tryd.func55 rfl Tryd.ntmps55 rfl hS fun a w hS => ?_
  have hM := hm; clear hm
  rw [huff_New.m] at hM
  refine wp_seq ?_
  refine wp_region_list ?_
  refine st1 hS (asg rfl) rfl fun a w hS => ?_
  refine st1 hS (asg rfl) rfl fun a w hS => ?_
  refine wpList_nil ?_
  refine then_n ?_
  refine wp_seq ?_
  refine wp_seq ?_
  refine wp_region_list ?_
  refine st1 hS (mv rfl) rfl fun a w hS => ?_
  refine s_call hS rfl Tryd.call61 (huff_Check_c hG K lengths416 A417 c418 (hr419.app _) hc420 (hS.st.part 0 [] (by kernel_rfl)) (wp_bind hM) (fun x509 w hM  hst => s_back hS.ev hst.appF rfl fun hS => ?_))
  replace hS : Ss _ _ _ H [] F _ _ := hS
  refine st1 hS (asg rfl) rfl fun a w hS => ?_
  refine wpList_nil ?_
  refine then_n ?_
  refine wp_seq ?_
  refine wp_region_list ?_
  refine st1 hS (mv rfl) rfl fun a w hS => ?_
  refine st1 hS (bin rfl rfl rfl) rfl fun a w hS => ?_
  refine wpList_nil ?_
  refine then_n ?_
  refine s_cond hS rfl hM (fun hb510 hM => ?_) (fun hb510 hM => ?_)
  · refine wp_seq ?_
    refine wp_region_list ?_
    refine st1 hS (mv rfl) rfl fun a w hS => ?_
    refine st1 hS (asg rfl) rfl fun a w hS => ?_
    refine st1 hS (asg rfl) rfl fun a w hS => ?_
    refine wpList_nil ?_
    refine then_n ?_
    refine wp_ret ?_
    refine then_ret ?_
    replace hS := hS.nilF
    exact s_ret (rs := [2, 3]) hS rfl rfl (hret none none ([] : Frag) x509 w hM (.inl ⟨rfl, rfl, rfl⟩) (hS.st.pick [0] (by kernel_rfl)))
  · refine wp_skip ?_
    refine then_n ?_
    refine wp_seq ?_
    refine wp_region_list ?_
    refine st1 hS (bld (((List.replicate 16 (0 : Int)).flatMap (ci .i64)) ++ [.slice none 0 0]) [(0, 16), (16, 1)] Tryd.zeroValue116 Tryd.runUnderlying116 (by intro w; simp [Tryd.sizeOf114, Tryd.sizeOf74]) rfl rfl) rfl fun a w hS => ?_
    refine bx (((List.replicate 16 (0 : Int)).flatMap (ci .i64)) ++ [.slice none 0 0]) hS rfl rfl rfl fun w b511 f512 hB513 hS => ?_
    obtain ⟨f514, hV515, hS⟩ := hS.nilV 3 (ci .i64) 1
    refine st1 hS (asg rfl) rfl fun a w hS => ?_
    refine wpList_nil ?_
    refine then_n ?_
    refine wp_seq ?_
    refine wp_region_list ?_
    refine st1 hS (mv rfl) rfl fun a w hS => ?_
    refine st1 hS (mv rfl) rfl fun a w hS => ?_
    refine s_call hS rfl Tryd.call62 (huff_count_c hG K lengths416 A417 c418 (hr419.app _) hc420 (hS.st.part 0 [0, 1] (by kernel_rfl)) (wp_bind hM) (fun x516 x517 w hM h518 hst => s_back hS.ev hst.appF rfl fun hS => ?_))
    replace hS : Ss _ _ _ H [f514, f512] F _ _ := hS
    refine st1 hS (mv rfl) rfl fun a w hS => ?_
    refine st1 hS (ex rfl rfl) rfl fun a w hS => ?_
    refine st1 hS (ex rfl rfl) rfl fun a w hS => ?_
    refine st1 hS (nck rfl) rfl fun a w hS => ?_
    refine st1 hS (fad rfl Tryd.runUnderlying116 rfl Tryd.sizeOf114 rfl) rfl fun a w hS => ?_
    refine stAr (xs := (List.replicate 16 (0 : Int))) (ys := x516) (g := (ci .i64)) (pre := []) (post := [.slice none ([] : List Int).length (0)]) 1 hS rfl rfl hB513 rfl (by simp) rfl (flat_ln (g := (ci .i64)) (sz := 1) (fun _ => rfl) (List.length_replicate ..)) (flat_ln (g := (ci .i64)) (sz := 1) (fun _ => rfl) h518) (one_t3) Tryd.sizeOf114 fun w f519 hB520 hS => ?_
    replace hB520 : Blk f519 b511 ((x516.flatMap (ci .i64)) ++ [.slice none ([] : List Int).length (0)]) 116 := by simpa using hB520
    refine wpList_nil ?_
    refine then_n ?_
    refine wp_seq ?_
    refine wp_seq ?_
    refine wp_region_list ?_
    refine st1 hS (asg rfl) rfl fun a w hS => ?_
    refine wpList_nil ?_
    refine then_n ?_
    refine wp_block ?_
    refine s_loopJ (fun k594 a w => ∃ (A586 : Option Addr) (c587 : Nat) (symbols588 : (List Int)) (f589 : Frag) (f591 : Frag) (n_593 : Int), Ss 50 [] [(0, .slice A417 lengths416.length c418), (5, ptr b511 0), (6, .int .i64 n_593)] H [f591, f589] F a w ∧ (Vec 3 (ci .i64) 1 A586 symbols588 c587 f589) ∧ (Blk f591 b511 ((x516.flatMap (ci .i64)) ++ [.slice A586 symbols588.length c587]) 116) ∧ (huff_New.l1 K lengths416 x516 k594 symbols588 n_593).wp kr kp) K ?_ ?_ ?_
    · exact ⟨none, 0, ([] : List Int), f514, f519, (1 : Int), hS.to [1, 0] (by kernel_rfl) ⟨rfl, rfl, rfl, trivial⟩, hV515, hB520, hM⟩
    · intro a w hI; obtain ⟨_, _, _, _, _, _, _, _, _, hM⟩ := hI; exact hM
    · intro k594 a w hI J650 hJ650
      obtain ⟨A586, c587, symbols588, f589, f591, n_593, hS, hV590, hB592, hM⟩ := hI
      rw [huff_New.l1] at hM
      refine wp_seq ?_
      refine wp_seq ?_
      refine wp_region_list ?_
      refine st1 hS (mv rfl) rfl fun a w hS => ?_
      refine st1 hS (bin rfl rfl rfl) rfl fun a w hS => ?_
      refine wpList_nil ?_
      refine then_n ?_
      refine s_cond hS rfl hM (fun hb595 hM => ?_) (fun hb595 hM => ?_)
      · refine wp_skip ?_
        refine then_n ?_
        refine wp_seq ?_
        refine wp_block ?_
        refine wp_seq ?_
        refine wp_region_list ?_
        refine st1 hS (mv rfl) rfl fun a w hS => ?_
        refine st1 hS (lenV rfl Tryd.runUnderlying74) rfl fun a w hS => ?_
        refine st1 hS (mv rfl) rfl fun a w hS => ?_
        refine wpList_nil ?_
        refine then_n ?_
        refine wp_block ?_
        refine s_loopJ (fun k631 a w => ∃ (A623 : Option Addr) (c624 : Nat) (symbols625 : (List Int)) (f626 : Frag) (f628 : Frag) (v630 : Int), Ss 50 [] [(0, .slice A417 lengths416.length c418), (5, ptr b511 0), (6, .int .i64 n_593), (28, .slice A417 lengths416.length c418), (29, .int .i64 (lengths416.length : Int)), (30, .int .i64 v630)] H [f628, f626] F a w ∧ (Vec 3 (ci .i64) 1 A623 symbols625 c624 f626) ∧ (Blk f628 b511 ((x516.flatMap (ci .i64)) ++ [.slice A623 symbols625.length c624]) 116) ∧ (huff_New.l2 K (huff_New.l1 K lengths416 x516 k594) lengths416 n_593 k631 symbols625 v630).wp kr kp) K ?_ ?_ ?_
        · exact ⟨A586, c587, symbols588, f589, f591, (0 : Int), hS.to [0, 1] (by kernel_rfl) ⟨rfl, rfl, rfl, rfl, rfl, rfl, trivial⟩, hV590, hB592, hM⟩
        · intro a w hI; obtain ⟨_, _, _, _, _, _, _, _, _, hM⟩ := hI; exact hM
        · intro k631 a w hI J649 hJ649
          obtain ⟨A623, c624, symbols625, f626, f628, v630, hS, hV627, hB629, hM⟩ := hI
          rw [huff_New.l2] at hM
          refine wp_seq ?_
          refine wp_region_list ?_
          refine st1 hS (bin rfl rfl rfl) rfl fun a w hS => ?_
          refine wpList_nil ?_
          refine then_n ?_
          refine wp_seq ?_
          refine s_cond hS rfl hM (fun hb632 hM => ?_) (fun hb632 hM => ?_)
          · refine wp_skip ?_
            refine then_n ?_
            refine wp_seq ?_
            refine wp_block ?_
            refine wp_seq ?_
            refine wp_region_list ?_
            refine st1 hS (mv rfl) rfl fun a w hS => ?_
            obtain ⟨hk634, hM⟩ := wp_chk hM
            refine st1 hS (ixV rfl rfl Tryd.runUnderlying74 Tryd.sizeOf3 hr419.wk (fun _ => rfl) rfl hk634) rfl fun a w hS => ?_
            refine st1 hS (ldV0 rfl hr419.wk (fun _ => rfl) hk634 rfl Tryd.isAgg3) rfl fun a w hS => ?_
            refine st1 hS (asg rfl) rfl fun a w hS => ?_
            refine st1x (v := Value.int .i64) hS (asg rfl) rfl fun k_635 a w hz hS => ?_
            have hM := lt_to hz hM; clear hz
            refine wpList_nil ?_
            refine then_n ?_
            refine wp_seq ?_
            refine wp_region_list ?_
            refine st1 hS (mv rfl) rfl fun a w hS => ?_
            refine st1 hS (mv rfl) rfl fun a w hS => ?_
            refine st1 hS (bin rfl rfl rfl) rfl fun a w hS => ?_
            refine wpList_nil ?_
            refine then_n ?_
            refine s_cond hS rfl hM (fun hb636 hM => ?_) (fun hb636 hM => ?_)
            · refine wp_region_list ?_
              refine st1 hS (mv rfl) rfl fun a w hS => ?_
              refine st1 hS (mv rfl) rfl fun a w hS => ?_
              refine st1 hS (nck rfl) rfl fun a w hS => ?_
              refine st1 hS (fad rfl Tryd.runUnderlying116 rfl Tryd.sizeOf74 rfl) rfl fun a w hS => ?_
              refine st1 hS (ldP 0 rfl hB629 rfl (by rfl) (flat_ln (g := (ci .i64)) (sz := 1) (fun _ => rfl) h518) Tryd.isAgg74) rfl fun a w hS => ?_
              refine st1 hS (mv rfl) rfl fun a w hS => ?_
              refine bsl (g := (ci .i64)) ([v630] : List Int) [.int .i64 v630] hS Tryd.runUnderlying74 Tryd.sizeOf3 X.el3 rfl rfl rfl (by simp [Value.cells]) rfl rfl rfl rfl rfl fun w A637 c638 f639 hV640 hS => ?_
              obtain ⟨hk641, hM⟩ := wp_chk hM
              refine apV (ys := ([v630] : List Int)) 2 hS rfl rfl hV627 rfl (hV640.rd (i := 0) rfl) Tryd.runUnderlying74 Tryd.runUnderlying74 X.el3 (fun _ => rfl) rfl one_t3 hk641 rfl fun zs646 w A642 c643 f644 hz hV645 hS => ?_
              have hM := lt_to hz hM; clear hz
              refine st1 hS (nck rfl) rfl fun a w hS => ?_
              refine st1 hS (fad rfl Tryd.runUnderlying116 rfl Tryd.sizeOf74 rfl) rfl fun a w hS => ?_
              refine stP 1 hS rfl rfl hB629 rfl rfl (flat_ln (g := (ci .i64)) (sz := 1) (fun _ => rfl) h518) rfl Tryd.sizeOf74 fun w f647 hB648 hS => ?_
              refine wpList_nil ?_
              refine blk_n (then_n ?_)
              refine wp_region_list ?_
              refine st1 hS (bin rfl rfl rfl) rfl fun a w hS => ?_
              refine st1 hS (mv rfl) rfl fun a w hS => ?_
              refine wpList_nil ?_
              refine then_n ?_
              exact hJ649 _ _ ⟨A642, c643, zs646, f644, f647, (w64 (v630 + (1 : Int))), hS.to [1, 2] (by kernel_rfl) ⟨rfl, rfl, rfl, rfl, rfl, rfl, trivial⟩, hV645, hB648, hM⟩
            · refine wp_skip ?_
              refine blk_n (then_n ?_)
              refine wp_region_list ?_
              refine st1 hS (bin rfl rfl rfl) rfl fun a w hS => ?_
              refine st1 hS (mv rfl) rfl fun a w hS => ?_
              refine wpList_nil ?_
              refine then_n ?_
              exact hJ649 _ _ ⟨A623, c624, symbols625, f626, f628, (w64 (v630 + (1 : Int))), hS.to [0, 1] (by kernel_rfl) ⟨rfl, rfl, rfl, rfl, rfl, rfl, trivial⟩, hV627, hB629, hM⟩
          · refine wp_exit ?_
            refine then_ex (then_ex (blk_same (blk_n (then_n ?_))))
            refine wp_region_list ?_
            refine st1 hS (mv rfl) rfl fun a w hS => ?_
            refine st1 hS (bin rfl rfl rfl) rfl fun a w hS => ?_
            refine st1x (v := Value.int .i64) hS (asg rfl) rfl fun n_633 a w hz hS => ?_
            have hM := lt_to hz hM; clear hz
            refine wpList_nil ?_
            refine then_n ?_
            exact hJ650 _ _ ⟨A623, c624, symbols625, f626, f628, n_633, hS.to [0, 1] (by kernel_rfl) ⟨rfl, rfl, rfl, trivial⟩, hV627, hB629, hM⟩
      · refine wp_exit ?_
        refine then_ex (then_ex (blk_same (then_n ?_)))
        refine wp_seq ?_
        refine wp_region_list ?_
        refine st1 hS (mv rfl) rfl fun a w hS => ?_
        refine st1 hS (asg rfl) rfl fun a w hS => ?_
        refine st1 hS (asg rfl) rfl fun a w hS => ?_
        refine wpList_nil ?_
        refine then_n ?_
        refine wp_ret ?_
        replace hS := hS.front [0, 1] (by kernel_rfl)
        replace hS := hS.joinF
        exact s_ret (rs := [2, 3]) hS rfl rfl (hret (some ⟨b511, 0, none⟩) (some (T_huff_Table.mk x516 symbols588)) (f591 ++ f589) (0 : Int) w hM (.inr ⟨_, _, rfl, rfl, f591, A586, c587, f589, rfl, hB592, h518, hV590⟩) (hS.st.pick [0] (by kernel_rfl)))

theorem inflate_table_c {H : Imm} {F : List Frag} {w : World} {R : Ending → World → Prop} {kr : (Option T_huff_Table) → Prop} {kp : Value → Prop} (hG : Gl H) (K : Nat) (l_411 : List Int) (A412 : Option Addr) (c413 : Nat) (hr414 : Rdl H [] F (ci .i64) A412 l_411) (hc415 : l_411.length ≤ c413)
    (hS : St w H [] F) (hm : (inflate_table.m K l_411).wp kr kp)
    (hret : ∀ (A671 : Option Addr) (x672 : Option T_huff_Table) (f673 : Frag) (w : World), kr x672 → (Opt T_huff_Table.Own A671 x672 f673) → St w H [f673] F → R (.returned (.pointer A671)) w)
    (hpan : ∀ v w, kp v → St w H [] F → R (.panicked [⟨v, false, false⟩]) w) :
    Calls Tryd.prog 44 ⟨[.slice A412 l_411.length c413]⟩ w R := by
  refine enter Tryd.func44 rfl Tryd.ntmps44 rfl hS fun a w hS => ?_
  have hM := hm; clear hm
  rw [inflate_table.m] at hM
  refine wp_seq ?_
  refine wp_region_list ?_
  refine st1 hS (asg rfl) rfl fun a w hS => ?_
  refine wpList_nil ?_
  refine then_n ?_
  refine wp_seq ?_
  refine wp_region_list ?_
  refine st1 hS (mv rfl) rfl fun a w hS => ?_
  refine s_call hS rfl Tryd.call55 (huff_New_c hG K l_411 A412 c413 (hr414.app _) hc415 (hS.st.part 0 [] (by kernel_rfl)) (wp_bind hM) (fun A666 x667 f668 x669 w hM h670 hst => s_back hS.ev hst.appF rfl fun hS => ?_))
  replace hS : Ss _ _ _ H [f668] F _ _ := hS
  refine st1 hS (mv rfl) rfl fun a w hS => ?_
  refine st1 hS (ex rfl rfl) rfl fun a w hS => ?_
  refine st1 hS (ex rfl rfl) rfl fun a w hS => ?_
  refine st1 hS (asg rfl) rfl fun a w hS => ?_
  refine st1 hS (asg rfl) rfl fun a w hS => ?_
  refine wpList_nil ?_
  refine then_n ?_
  refine wp_seq ?_
  refine wp_region_list ?_
  refine st1 hS (mv rfl) rfl fun a w hS => ?_
  refine st1 hS (bin rfl rfl rfl) rfl fun a w hS => ?_
  refine s_call hS rfl Tryd.call32 (inflate_refuse_c hG K (x669 != (0 : Int)) (3 : Int) (hS.st.part 0 [0] (by kernel_rfl)) (wp_bind hM) (fun  w hM  hst => s_back hS.ev hst.appF rfl fun hS => ?_) (fun v w hk hst => s_pan (then_pan (⟨hS.ev.defs, hpan _ _ hk hst.appF.frame⟩))))
  replace hS : Ss _ _ _ H [f668] F _ _ := hS
  refine wpList_nil ?_
  refine then_n ?_
  refine wp_seq ?_
  refine wp_region_list ?_
  refine st1 hS (mv rfl) rfl fun a w hS => ?_
  refine st1 hS (asg rfl) rfl fun a w hS => ?_
  refine wpList_nil ?_
  refine then_n ?_
  refine wp_ret ?_
  exact s_ret (rs := [2]) hS rfl rfl (hret A666 x667 f668 w hM h670 (hS.st.pick [0] (by kernel_rfl)))

theorem inflate_fixed_c {H : Imm} {F : List Frag} {w : World} {R : Ending → World → Prop} {kr : ((Option T_huff_Table) × (Option T_huff_Table)) → Prop} {kp : Value → Prop} (hG : Gl H) (K : Nat)
    (hS : St w H [] F) (hm : (inflate_fixed.m K).wp kr kp)
    (hret : ∀ (A683 : Option Addr) (x684 : Option T_huff_Table) (f685 : Frag) (A687 : Option Addr) (x688 : Option T_huff_Table) (f689 : Frag) (w : World), kr (x684, x688) → (Opt T_huff_Table.Own A683 x684 f685) → (Opt T_huff_Table.Own A687 x688 f689) → St w H [f685, f689] F → R (.returned (.tuple ⟨[.pointer A683, .pointer A687]⟩)) w)
    (hpan : ∀ v w, kp v → St w H [] F → R (.panicked [⟨v, false, false⟩]) w) :
    Calls Tryd.prog 30 ⟨[]⟩ w R := by
  refine enter Tryd.func30 rfl Tryd.ntmps30 rfl hS fun a w hS => ?_
  have hM := hm; clear hm
  rw [inflate_fixed.m] at hM
  refine wp_seq ?_
  refine wp_region_list ?_
  refine st1 hS (asg rfl) rfl fun a w hS => ?_
  refine st1 hS (asg rfl) rfl fun a w hS => ?_
  refine wpList_nil ?_
  refine then_n ?_
  refine wp_seq ?_
  refine wp_region_list ?_
  refine alc ((List.replicate 288 (0 : Int)).flatMap (ci .i64)) hS Tryd.zeroValue93 (by kernel_rfl) rfl fun w b313 f314 hB315 hS => ?_
  refine wpList_nil ?_
  refine then_n ?_
  refine seq_joinJ (fun a w => ∃ (l_372 : (List Int)) (f374 : Frag), Ss 38 [] [(2, ptr b313 0)] H [f374] F a w ∧ (l_372.length = 288) ∧ (Blk f374 b313 (l_372.flatMap (ci .i64)) 93) ∧ (inflate_fixed.j3 K l_372).wp kr kp) (fun J376 hJ376 => ?_) ?_
  · refine wp_seq ?_
    refine wp_region_list ?_
    refine st1 hS (mv rfl) rfl fun a w hS => ?_
    refine wpList_nil ?_
    refine then_n ?_
    refine wp_block ?_
    refine s_loopJ (fun k349 a w => ∃ (l_344 : (List Int)) (f346 : Frag) (v348 : Int), Ss 38 [] [(2, ptr b313 0), (6, .int .i64 v348)] H [f346] F a w ∧ (l_344.length = 288) ∧ (Blk f346 b313 (l_344.flatMap (ci .i64)) 93) ∧ (inflate_fixed.l1 K k349 l_344 v348).wp kr kp) K ?_ ?_ ?_
    · exact ⟨(List.replicate 288 (0 : Int)), f314, (0 : Int), hS.to [0] (by kernel_rfl) ⟨rfl, rfl, trivial⟩, (List.length_replicate ..), hB315, hM⟩
    · intro a w hI; obtain ⟨_, _, _, _, _, _, hM⟩ := hI; exact hM
    · intro k349 a w hI J371 hJ371
      obtain ⟨l_344, f346, v348, hS, hl345, hB347, hM⟩ := hI
      rw [inflate_fixed.l1] at hM
      refine wp_seq ?_
      refine wp_region_list ?_
      refine st1 hS (bin rfl rfl rfl) rfl fun a w hS => ?_
      refine wpList_nil ?_
      refine then_n ?_
      refine wp_seq ?_
      refine s_cond hS rfl hM (fun hb350 hM => ?_) (fun hb350 hM => ?_)
      · refine wp_skip ?_
        refine then_n ?_
        refine wp_seq ?_
        refine wp_block ?_
        refine wp_seq ?_
        refine wp_region_list ?_
        refine st1 hS (mv rfl) rfl fun a w hS => ?_
        refine st1 hS (asg rfl) rfl fun a w hS => ?_
        refine wpList_nil ?_
        refine then_n ?_
        refine wp_seq ?_
        refine wp_region_list ?_
        refine st1 hS (mv rfl) rfl fun a w hS => ?_
        obtain ⟨hk351, hM⟩ := wp_chk hM
        refine st1 hS (ixB rfl rfl Tryd.runUnderlying93 Tryd.sizeOf3 hk351) rfl fun a w hS => ?_
        refine stR (xs := l_344) (g := (ci .i64)) (pre := []) (post := []) 0 ((8 : Int)) hS rfl rfl hB347 rfl (by simp) rfl (fun _ => rfl) (inb_len hl345 hk351) rfl Tryd.sizeOf3 (one_t3 _) fun zs354 w f352 hz hB353 hS => ?_
        have hl355 : zs354.length = 288 := by rw [hz, List.length_set]; exact hl345
        have hM := lt_to hz hM; clear hz
        replace hB353 : Blk f352 b313 (zs354.flatMap (ci .i64)) 93 := by simpa using hB353
        refine wpList_nil ?_
        refine then_n ?_
        refine seq_joinJ (fun a w => ∃ (l_361 : (List Int)) (f363 : Frag), Ss 38 [] [(2, ptr b313 0), (3, .int .i64 v348), (6, .int .i64 v348)] H [f363] F a w ∧ (l_361.length = 288) ∧ (Blk f363 b313 (l_361.flatMap (ci .i64)) 93) ∧ (inflate_fixed.j2 K (inflate_fixed.l1 K k349) v348 l_361).wp kr kp) (fun J365 hJ365 => ?_) ?_
        · refine wp_seq ?_
          refine wp_region_list ?_
          refine st1 hS (mv rfl) rfl fun a w hS => ?_
          refine st1 hS (bin rfl rfl rfl) rfl fun a w hS => ?_
          refine st1 hS (mv rfl) rfl fun a w hS => ?_
          refine g_op 2 true 13 (b := (decide (v348 ≥ (144 : Int)))) (r := (decide (v348 < (256 : Int)))) hS rfl rfl rfl rfl rfl rfl rfl (fun hb a w hS K hK => ?_) rfl fun a w hS => ?_
          · refine st1g hS rfl rfl rfl hb (mv rfl) rfl fun a w hS => ?_
            refine st1g hS rfl rfl rfl hb (bin rfl rfl rfl) rfl fun a w hS => ?_
            exact wpList_nil (hK _ _ (hS.up 2 rfl rfl))
          refine wpList_nil ?_
          refine then_n ?_
          refine s_cond hS rfl hM (fun hb356 hM => ?_) (fun hb356 hM => ?_)
          · refine wp_region_list ?_
            refine st1 hS (mv rfl) rfl fun a w hS => ?_
            refine st1 hS (ixB rfl rfl Tryd.runUnderlying93 Tryd.sizeOf3 hk351) rfl fun a w hS => ?_
            refine stR (xs := zs354) (g := (ci .i64)) (pre := []) (post := []) 0 ((9 : Int)) hS rfl rfl hB353 rfl (by simp) rfl (fun _ => rfl) (inb_len hl355 hk351) rfl Tryd.sizeOf3 (one_t3 _) fun zs359 w f357 hz hB358 hS => ?_
            have hl360 : zs359.length = 288 := by rw [hz, List.length_set]; exact hl355
            have hM := lt_to hz hM; clear hz
            replace hB358 : Blk f357 b313 (zs359.flatMap (ci .i64)) 93 := by simpa using hB358
            refine wpList_nil ?_
            refine then_n ?_
            exact hJ365 _ _ ⟨zs359, f357, hS.to [0] (by kernel_rfl) ⟨rfl, rfl, rfl, trivial⟩, hl360, hB358, hM⟩
          · refine wp_skip ?_
            refine then_n ?_
            exact hJ365 _ _ ⟨zs354, f352, hS.to [0] (by kernel_rfl) ⟨rfl, rfl, rfl, trivial⟩, hl355, hB353, hM⟩
        · intro a w hI
          obtain ⟨l_361, f363, hS, hl362, hB364, hM⟩ := hI
          rw [inflate_fixed.j2] at hM
          refine wp_seq ?_
          refine wp_region_list ?_
          refine st1 hS (mv rfl) rfl fun a w hS => ?_
          refine st1 hS (bin rfl rfl rfl) rfl fun a w hS => ?_
          refine st1 hS (mv rfl) rfl fun a w hS => ?_
          refine g_op 2 true 21 (b := (decide (v348 ≥ (256 : Int)))) (r := (decide (v348 < (280 : Int)))) hS rfl rfl rfl rfl rfl rfl rfl (fun hb a w hS K hK => ?_) rfl fun a w hS => ?_
          · refine st1g hS rfl rfl rfl hb (mv rfl) rfl fun a w hS => ?_
            refine st1g hS rfl rfl rfl hb (bin rfl rfl rfl) rfl fun a w hS => ?_
            exact wpList_nil (hK _ _ (hS.up 2 rfl rfl))
          refine wpList_nil ?_
          refine then_n ?_
          refine s_cond hS rfl hM (fun hb366 hM => ?_) (fun hb366 hM => ?_)
          · refine wp_region_list ?_
            refine st1 hS (mv rfl) rfl fun a w hS => ?_
            refine st1 hS (ixB rfl rfl Tryd.runUnderlying93 Tryd.sizeOf3 hk351) rfl fun a w hS => ?_
            refine stR (xs := l_361) (g := (ci .i64)) (pre := []) (post := []) 0 ((7 : Int)) hS rfl rfl hB364 rfl (by simp) rfl (fun _ => rfl) (inb_len hl362 hk351) rfl Tryd.sizeOf3 (one_t3 _) fun zs369 w f367 hz hB368 hS => ?_
            have hl370 : zs369.length = 288 := by rw [hz, List.length_set]; exact hl362
            have hM := lt_to hz hM; clear hz
            replace hB368 : Blk f367 b313 (zs369.flatMap (ci .i64)) 93 := by simpa using hB368
            refine wpList_nil ?_
            refine blk_n (then_n ?_)
            refine wp_region_list ?_
            refine st1 hS (bin rfl rfl rfl) rfl fun a w hS => ?_
            refine st1 hS (mv rfl) rfl fun a w hS => ?_
            refine wpList_nil ?_
            refine then_n ?_
            exact hJ371 _ _ ⟨zs369, f367, (w64 (v348 + (1 : Int))), hS.to [0] (by kernel_rfl) ⟨rfl, rfl, trivial⟩, hl370, hB368, hM⟩
          · refine wp_skip ?_
            refine blk_n (then_n ?_)
            refine wp_region_list ?_
            refine st1 hS (bin rfl rfl rfl) rfl fun a w hS => ?_
            refine st1 hS (mv rfl) rfl fun a w hS => ?_
            refine wpList_nil ?_
            refine then_n ?_
            exact hJ371 _ _ ⟨l_361, f363, (w64 (v348 + (1 : Int))), hS.to [0] (by kernel_rfl) ⟨rfl, rfl, trivial⟩, hl362, hB364, hM⟩
      · refine wp_exit ?_
        refine then_ex (then_ex (blk_same (then_n ?_)))
        exact hJ376 _ _ ⟨l_344, f346, hS.to [0] (by kernel_rfl) ⟨rfl, trivial⟩, hl345, hB347, hM⟩
  · intro a w hI
    obtain ⟨l_372, f374, hS, hl373, hB375, hM⟩ := hI
    rw [inflate_fixed.j3] at hM
    refine wp_seq ?_
    refine wp_region_list ?_
    refine alc ((List.replicate 32 (0 : Int)).flatMap (ci .i64)) hS Tryd.zeroValue94 rfl rfl fun w b377 f378 hB379 hS => ?_
    refine wpList_nil ?_
    refine then_n ?_
    refine seq_joinJ (fun a w => ∃ (d406 : (List Int)) (f408 : Frag), Ss 38 [] [(2, ptr b313 0), (4, ptr b377 0)] H [f374, f408] F a w ∧ (d406.length = 32) ∧ (Blk f408 b377 (d406.flatMap (ci .i64)) 94) ∧ (inflate_fixed.j5 K l_372 d406).wp kr kp) (fun J410 hJ410 => ?_) ?_
    · refine wp_seq ?_
      refine wp_region_list ?_
      refine st1 hS (mv rfl) rfl fun a w hS => ?_
      refine wpList_nil ?_
      refine then_n ?_
      refine wp_block ?_
      refine s_loopJ (fun k398 a w => ∃ (d393 : (List Int)) (f395 : Frag) (v397 : Int), Ss 38 [] [(2, ptr b313 0), (4, ptr b377 0), (28, .int .i64 v397)] H [f374, f395] F a w ∧ (d393.length = 32) ∧ (Blk f395 b377 (d393.flatMap (ci .i64)) 94) ∧ (inflate_fixed.l4 K l_372 k398 d393 v397).wp kr kp) K ?_ ?_ ?_
      · exact ⟨(List.replicate 32 (0 : Int)), f378, (0 : Int), hS.to [1, 0] (by kernel_rfl) ⟨rfl, rfl, rfl, trivial⟩, (List.length_replicate ..), hB379, hM⟩
      · intro a w hI; obtain ⟨_, _, _, _, _, _, hM⟩ := hI; exact hM
      · intro k398 a w hI J405 hJ405
        obtain ⟨d393, f395, v397, hS, hl394, hB396, hM⟩ := hI
        rw [inflate_fixed.l4] at hM
        refine wp_seq ?_
        refine wp_region_list ?_
        refine st1 hS (bin rfl rfl rfl) rfl fun a w hS => ?_
        refine wpList_nil ?_
        refine then_n ?_
        refine wp_seq ?_
        refine s_cond hS rfl hM (fun hb399 hM => ?_) (fun hb399 hM => ?_)
        · refine wp_skip ?_
          refine then_n ?_
          refine wp_seq ?_
          refine wp_block ?_
          refine wp_seq ?_
          refine wp_region_list ?_
          refine st1 hS (mv rfl) rfl fun a w hS => ?_
          refine st1 hS (asg rfl) rfl fun a w hS => ?_
          refine wpList_nil ?_
          refine then_n ?_
          refine wp_region_list ?_
          refine st1 hS (mv rfl) rfl fun a w hS => ?_
          obtain ⟨hk400, hM⟩ := wp_chk hM
          refine st1 hS (ixB rfl rfl Tryd.runUnderlying94 Tryd.sizeOf3 hk400) rfl fun a w hS => ?_
          refine stR (xs := d393) (g := (ci .i64)) (pre := []) (post := []) 1 ((5 : Int)) hS rfl rfl hB396 rfl (by simp) rfl (fun _ => rfl) (inb_len hl394 hk400) rfl Tryd.sizeOf3 (one_t3 _) fun zs403 w f401 hz hB402 hS => ?_
          have hl404 : zs403.length = 32 := by rw [hz, List.length_set]; exact hl394
          have hM := lt_to hz hM; clear hz
          replace hB402 : Blk f401 b377 (zs403.flatMap (ci .i64)) 94 := by simpa using hB402
          refine wpList_nil ?_
          refine blk_n (then_n ?_)
          refine wp_region_list ?_
          refine st1 hS (bin rfl rfl rfl) rfl fun a w hS => ?_
          refine st1 hS (mv rfl) rfl fun a w hS => ?_
          refine wpList_nil ?_
          refine then_n ?_
          exact hJ405 _ _ ⟨zs403, f401, (w64 (v397 + (1 : Int))), hS.to [0, 1] (by kernel_rfl) ⟨rfl, rfl, rfl, trivial⟩, hl404, hB402, hM⟩
        · refine wp_exit ?_
          refine then_ex (then_ex (blk_same (then_n ?_)))
          exact hJ410 _ _ ⟨d393, f395, hS.to [0, 1] (by kernel_rfl) ⟨rfl, rfl, trivial⟩, hl394, hB396, hM⟩
    · intro a w hI
      obtain ⟨d406, f408, hS, hl407, hB409, hM⟩ := hI
      rw [inflate_fixed.j5] at hM
      refine wp_seq ?_
      refine draw_begin (vals := [some (.slice (some ⟨b313, 0, none⟩) l_372.length (288)), none, some (.slice (some ⟨b377, 0, none⟩) d406.length (32)), none, none, none]) hS mixed rfl ?_
      intro l w ho hcl hA hst
      refine phase' (vals := [some (.slice (some ⟨b313, 0, none⟩) l_372.length (288)), none, some (.slice (some ⟨b377, 0, none⟩) d406.length (32)), none, none, none]) 1 [] [0, 2] rfl rfl rfl rfl (by exact ⟨nR rfl rfl rfl rfl rfl (by exact ovE (slA rfl Tryd.runUnderlying93 Tryd.sizeOf3 hl373 rfl) rfl), nR rfl rfl rfl rfl rfl (by exact ovE (slA rfl Tryd.runUnderlying94 Tryd.sizeOf3 hl407 rfl) rfl), trivial⟩) (fun D l a w ho hcl hav hpre hm hE hk hA hst => ?_) ho hcl (fun j hj => (List.not_mem_nil hj).elim) (fun m hm => (List.not_mem_nil hm).elim) List.not_mem_nil hA hst
      have hS := (Ss.mk hE hst).env2 (e' := [(34, .slice (some ⟨b313, 0, none⟩) l_372.length (288))]) ⟨rfl, trivial⟩
      refine op_of_nth rfl ?_
      refine s_call hS rfl Tryd.call44 (inflate_table_c hG K l_372 (some ⟨b313, 0, none⟩) (288) (hB375.rdF (i := 0) rfl rfl) (Nat.le_of_eq hl373) (hS.st.part 0 [0, 1] (by kernel_rfl)) (wp_bind hM) (fun A675 x676 f677 w hM h678 hst => s_back hS.ev hst.appF rfl fun hS => ?_) (fun v w hk hst => s_pan (then_pan (then_pan (⟨hS.ev.defs, hpan _ _ hk hst.appF.frame⟩)))))
      replace hS : Ss _ _ _ H [f677, f374, f408] F _ _ := hS
      refine wpList_nil (then_n ?_)
      have hcl2 := hcl.cons (k := 1) (nth_get rfl) hpre
      have hmust := must_cons (k := 1) hm (chain (k := 1) hcl (nth_get rfl) hpre [(0, 1)] [] rfl (fun _ h => absurd h List.not_mem_nil))
      replace hst := hS.st
      have hav2 := hav.cons (vals' := [some (.slice (some ⟨b313, 0, none⟩) l_372.length (288)), some (.pointer A675), some (.slice (some ⟨b377, 0, none⟩) d406.length (32)), none, none, none]) (k := 1) ⟨rfl, rfl, trivial⟩ rfl
      replace hA := (hA.next hav (subV.get (l' := [some (.slice (some ⟨b313, 0, none⟩) l_372.length (288)), some (.pointer A675), some (.slice (some ⟨b377, 0, none⟩) d406.length (32)), none, none, none]) ⟨rfl, rfl, trivial⟩)).step rfl (nth_get rfl) hk rfl rfl rfl
      clear hm hav
      replace hcl := hcl2
      refine phase' (vals := [some (.slice (some ⟨b313, 0, none⟩) l_372.length (288)), some (.pointer A675), some (.slice (some ⟨b377, 0, none⟩) d406.length (32)), none, none, none]) 3 [1, 0] [2] rfl rfl rfl rfl (by exact ⟨nR rfl rfl rfl rfl rfl (by exact ovE (slA rfl Tryd.runUnderlying94 Tryd.sizeOf3 hl407 rfl) rfl), trivial⟩) (fun D l a w ho hcl hav hpre hm hE hk hA hst => ?_) ho hcl hav2 hmust (hav2.notin rfl) hA hst
      have hS := (Ss.mk hE hst).env2 (e' := [(36, .slice (some ⟨b377, 0, none⟩) d406.length (32))]) ⟨rfl, trivial⟩
      refine op_of_nth rfl ?_
      refine s_call hS rfl Tryd.call44 (inflate_table_c hG K d406 (some ⟨b377, 0, none⟩) (32) (hB409.rdF (i := 2) rfl rfl) (Nat.le_of_eq hl407) (hS.st.part 0 [0, 1, 2] (by kernel_rfl)) (wp_bind hM) (fun A679 x680 f681 w hM h682 hst => s_back hS.ev hst.appF rfl fun hS => ?_) (fun v w hk hst => s_pan (then_pan (then_pan (⟨hS.ev.defs, hpan _ _ hk hst.appF.frame⟩)))))
      replace hS : Ss _ _ _ H [f681, f677, f374, f408] F _ _ := hS
      refine wpList_nil (then_n ?_)
      have hcl2 := hcl.cons (k := 3) (nth_get rfl) hpre
      have hmust := must_cons (k := 3) hm (chain (k := 3) hcl (nth_get rfl) hpre [(1, 3), (2, 3), (0, 1)] [] rfl (fun _ h => absurd h List.not_mem_nil))
      replace hst := hS.st
      have hav2 := hav.cons (vals' := [some (.slice (some ⟨b313, 0, none⟩) l_372.length (288)), some (.pointer A675), some (.slice (some ⟨b377, 0, none⟩) d406.length (32)), some (.pointer A679), some (.pointer A675), some (.pointer A679)]) (k := 3) ⟨rfl, rfl, rfl, trivial⟩ rfl
      replace hA := (hA.next hav (subV.get (l' := [some (.slice (some ⟨b313, 0, none⟩) l_372.length (288)), some (.pointer A675), some (.slice (some ⟨b377, 0, none⟩) d406.length (32)), some (.pointer A679), some (.pointer A675), some (.pointer A679)]) ⟨rfl, rfl, rfl, trivial⟩)).step rfl (nth_get rfl) hk rfl rfl rfl
      clear hm hav
      replace hcl := hcl2
      refine phaseE (vals := [some (.slice (some ⟨b313, 0, none⟩) l_372.length (288)), some (.pointer A675), some (.slice (some ⟨b377, 0, none⟩) d406.length (32)), some (.pointer A679), some (.pointer A675), some (.pointer A679)]) [3, 1, 2, 0, 1, 0] [4, 5] rfl rfl rfl (by exact ⟨nR rfl rfl rfl rfl rfl (by exact ovE (asg rfl) rfl), nR rfl rfl rfl rfl rfl (by exact ovE (asg rfl) rfl), trivial⟩) (fun a w hS => ?_) ho hcl hmust hA hst
      replace hS := hS.env2 (e' := [(0, .pointer A675), (1, .pointer A679)]) ⟨rfl, rfl, trivial⟩
      refine then_n ?_
      refine wp_ret ?_
      exact s_ret (rs := [0, 1]) hS rfl rfl (hret A675 x676 f677 A679 x680 f681 w hM h678 h682 (hS.st.pick [1, 0] (by kernel_rfl)))

theorem huff_Table_Next_c {H : Imm} {F : List Frag} {w : World} {R : Ending → World → Prop} {kr : (Int × Int × Int) → Prop} {kp : Value → Prop} (hG : Gl H) (K : Nat) (t771 : T_huff_Table) (r780 : T_bits_Reader) (b772 : Nat) (f773 : Frag) (A776 : Option Addr) (c777 : Nat) (f778 : Frag) (b781 : Nat) (f782 : Frag) (hB774 : Blk f773 b772 ((t771.counts_.flatMap (ci .i64)) ++ [.slice A776 t771.symbols_.length c777]) 116) (hl775 : t771.counts_.length = 16) (hV779 : Vec 3 (ci .i64) 1 A776 t771.symbols_ c777 f778) (hB783 : Blk f782 b781 ([.int .i64 r780.place_.at_, str r780.text_]) 65)
    (hS : St w H [f773, f778, f782] F) (hm : (huff_Table_Next.m K t771 r780).wp kr kp)
    (hret : ∀ (x854 : Int) (x855 : Int) (at_856 : Int) (f857 : Frag) (w : World), kr (x854, x855, at_856) → (Blk f857 b781 ([.int .i64 at_856, str r780.text_]) 65) → St w H [f857, f773, f778] F → R (.returned (.tuple ⟨[.int .i64 x854, .int .i64 x855]⟩)) w) :
    Calls Tryd.prog 54 ⟨[ptr b772 0, ptr b781 0]⟩ w R := by
  refine enter Tryd.func54 rfl Tryd.ntmps54 rfl hS fun a w hS => ?_
  have hM := hm; clear hm
  rw [huff_Table_Next.m] at hM
  refine wp_seq ?_
  refine wp_region_list ?_
  refine st1 hS (asg rfl) rfl fun a w hS => ?_
  refine st1 hS (asg rfl) rfl fun a w hS => ?_
  refine wpList_nil ?_
  refine then_n ?_
  refine wp_seq ?_
  refine wp_seq ?_
  refine wp_region_list ?_
  refine st1 hS (mv rfl) rfl fun a w hS => ?_
  refine st1 hS (eqNil rfl rfl Tryd.runUnderlying67) rfl fun a w hS => ?_
  refine st1 hS (mv rfl) rfl fun a w hS => ?_
  refine st1g hS rfl rfl rfl rfl (mv rfl) rfl fun a w hS => ?_
  refine st1g hS rfl rfl rfl rfl (eqNil rfl rfl Tryd.runUnderlying48) rfl fun a w hS => ?_
  refine st1 hS (pk rfl rfl rfl) rfl fun a w hS => ?_
  refine wpList_nil ?_
  refine then_n ?_
  refine s_condF hS rfl ?_
  refine wp_skip ?_
  refine then_n ?_
  refine wp_seq ?_
  refine wp_region_list ?_
  refine st1 hS (mv rfl) rfl fun a w hS => ?_
  refine st1 hS (nck rfl) rfl fun a w hS => ?_
  refine st1 hS (ldbA 2 rfl hB783 rfl ([.int .i64 r780.place_.at_, str r780.text_]) rfl rfl Tryd.isAgg65 Tryd.sizeOf65) rfl fun a w hS => ?_
  refine alc ([.int .i64 (0 : Int), str ([] : List UInt8)]) hS Tryd.zeroValue65 rfl rfl fun w b784 f785 hB786 hS => ?_
  refine stB 0 ([.int .i64 r780.place_.at_, str r780.text_]) ([.int .i64 r780.place_.at_, str r780.text_]) hS rfl rfl hB786 rfl rfl Tryd.sizeOf65 (by simp [Value.oneCell']) (Nat.le_of_ble_eq_true rfl) rfl fun w f787 hB788 hS => ?_
  refine wpList_nil ?_
  refine then_n ?_
  refine wp_seq ?_
  refine wp_region_list ?_
  refine st1 hS (asg rfl) rfl fun a w hS => ?_
  refine st1 hS (asg rfl) rfl fun a w hS => ?_
  refine st1 hS (asg rfl) rfl fun a w hS => ?_
  refine wpList_nil ?_
  refine then_n ?_
  refine seq_joinJ (fun a w => ∃ (at_848 : Int) (f849 : Frag), Ss 81 [] [(1, ptr b781 0), (6, ptr b784 0)] H [f849, f773, f778, f787] F a w ∧ (Blk f849 b781 ([.int .i64 at_848, str r780.text_]) 65) ∧ (huff_Table_Next.j2 K r780 at_848).wp kr kp) (fun J851 hJ851 => ?_) ?_
  · refine wp_seq ?_
    refine wp_region_list ?_
    refine st1 hS (asg rfl) rfl fun a w hS => ?_
    refine wpList_nil ?_
    refine then_n ?_
    refine wp_block ?_
    refine s_loopJ (fun k827 a w => ∃ (at_820 : Int) (f821 : Frag) (code823 : Int) (first824 : Int) (passed825 : Int) (n_826 : Int), Ss 81 [] [(0, ptr b772 0), (1, ptr b781 0), (6, ptr b784 0), (7, .int .i64 code823), (8, .int .i64 first824), (9, .int .i64 passed825), (10, .int .i64 n_826)] H [f821, f773, f778, f787] F a w ∧ (Blk f821 b781 ([.int .i64 at_820, str r780.text_]) 65) ∧ (huff_Table_Next.l1 K t771 r780 k827 at_820 code823 first824 passed825 n_826).wp kr kp) K ?_ ?_ ?_
    · exact ⟨r780.place_.at_, f782, (0 : Int), (0 : Int), (0 : Int), (1 : Int), hS.to [3, 1, 2, 0] (by kernel_rfl) ⟨rfl, rfl, rfl, rfl, rfl, rfl, rfl, trivial⟩, hB783, hM⟩
    · intro a w hI; obtain ⟨_, _, _, _, _, _, _, _, hM⟩ := hI; exact hM
    · intro k827 a w hI J847 hJ847
      obtain ⟨at_820, f821, code823, first824, passed825, n_826, hS, hB822, hM⟩ := hI
      rw [huff_Table_Next.l1] at hM
      refine wp_seq ?_
      refine wp_seq ?_
      refine wp_region_list ?_
      refine st1 hS (mv rfl) rfl fun a w hS => ?_
      refine st1 hS (mv rfl) rfl fun a w hS => ?_
      refine st1 hS (nck rfl) rfl fun a w hS => ?_
      refine st1 hS (fad rfl Tryd.runUnderlying116 rfl Tryd.sizeOf74 rfl) rfl fun a w hS => ?_
      refine st1 hS (ldP 1 rfl hB774 rfl (by rfl) (flat_ln (g := (ci .i64)) (sz := 1) (fun _ => rfl) hl775) Tryd.isAgg74) rfl fun a w hS => ?_
      refine st1 hS (lenV rfl Tryd.runUnderlying74) rfl fun a w hS => ?_
      refine st1 hS (bin rfl rfl rfl) rfl fun a w hS => ?_
      refine wpList_nil ?_
      refine then_n ?_
      refine s_cond hS rfl hM (fun hb828 hM => ?_) (fun hb828 hM => ?_)
      · refine wp_skip ?_
        refine then_n ?_
        refine wp_seq ?_
        refine wp_block ?_
        refine wp_seq ?_
        refine wp_region_list ?_
        refine st1 hS (mv rfl) rfl fun a w hS => ?_
        refine s_call hS rfl Tryd.call39 (bits_Reader_Bits_c hG K (T_bits_Reader.mk (T_bits_place.mk at_820) r780.text_) (1 : Int) b781 f821 hB822 (hS.st.part 1 [0, 1, 2, 3] (by kernel_rfl)) (wp_bind hM) (fun x829 x830 at_831 f832 w hM h833 hst => s_back hS.ev hst.appF rfl fun hS => ?_))
        replace hS : Ss _ _ _ H [f832, f773, f778, f787] F _ _ := hS
        refine st1 hS (mv rfl) rfl fun a w hS => ?_
        refine st1 hS (ex rfl rfl) rfl fun a w hS => ?_
        refine st1 hS (ex rfl rfl) rfl fun a w hS => ?_
        refine st1 hS (asg rfl) rfl fun a w hS => ?_
        refine st1 hS (asg rfl) rfl fun a w hS => ?_
        refine wpList_nil ?_
        refine then_n ?_
        refine wp_seq ?_
        refine wp_seq ?_
        refine wp_region_list ?_
        refine st1 hS (mv rfl) rfl fun a w hS => ?_
        refine st1 hS (bin rfl rfl rfl) rfl fun a w hS => ?_
        refine wpList_nil ?_
        refine then_n ?_
        refine s_cond hS rfl hM (fun hb834 hM => ?_) (fun hb834 hM => ?_)
        · refine wp_seq ?_
          refine wp_region_list ?_
          refine st1 hS (mv rfl) rfl fun a w hS => ?_
          refine st1 hS (ldbA 3 rfl hB788 rfl ([.int .i64 r780.place_.at_, str r780.text_]) rfl rfl Tryd.isAgg65 Tryd.sizeOf65) rfl fun a w hS => ?_
          refine st1 hS (nck rfl) rfl fun a w hS => ?_
          refine stB 0 ([.int .i64 r780.place_.at_, str r780.text_]) ([.int .i64 r780.place_.at_, str r780.text_]) hS rfl rfl h833 rfl rfl Tryd.sizeOf65 (by simp [Value.oneCell']) (Nat.le_of_ble_eq_true rfl) rfl fun w f835 hB836 hS => ?_
          refine wpList_nil ?_
          refine then_n ?_
          refine wp_seq ?_
          refine wp_region_list ?_
          refine st1 hS (mv rfl) rfl fun a w hS => ?_
          refine st1 hS (asg rfl) rfl fun a w hS => ?_
          refine st1 hS (asg rfl) rfl fun a w hS => ?_
          refine wpList_nil ?_
          refine then_n ?_
          refine wp_ret ?_
          refine then_ret (blk_ret (then_ret (then_ret (blk_ret (then_ret ?_)))))
          exact s_ret (rs := [4, 5]) hS rfl rfl (hret (0 : Int) x830 r780.place_.at_ f835 w hM hB836 (hS.st.pick [0, 1, 2] (by kernel_rfl)))
        · refine wp_skip ?_
          refine then_n ?_
          refine wp_seq ?_
          refine wp_region_list ?_
          refine st1 hS (mv rfl) rfl fun a w hS => ?_
          refine st1 hS (shl rfl rfl rfl) rfl fun a w hS => ?_
          refine st1 hS (mv rfl) rfl fun a w hS => ?_
          refine st1 hS (cvi rfl Tryd.runUnderlying37 Tryd.runUnderlying3) rfl fun a w hS => ?_
          refine st1 hS (bin rfl rfl rfl) rfl fun a w hS => ?_
          refine st1x (v := Value.int .i64) hS (asg rfl) rfl fun code837 a w hz hS => ?_
          have hM := lt_to hz hM; clear hz
          refine wpList_nil ?_
          refine then_n ?_
          refine wp_seq ?_
          refine wp_region_list ?_
          refine st1 hS (mv rfl) rfl fun a w hS => ?_
          refine st1 hS (shl rfl rfl rfl) rfl fun a w hS => ?_
          refine st1x (v := Value.int .i64) hS (asg rfl) rfl fun first838 a w hz hS => ?_
          have hM := lt_to hz hM; clear hz
          refine wpList_nil ?_
          refine then_n ?_
          refine wp_seq ?_
          refine wp_region_list ?_
          refine st1 hS (mv rfl) rfl fun a w hS => ?_
          refine st1 hS (mv rfl) rfl fun a w hS => ?_
          refine st1 hS (nck rfl) rfl fun a w hS => ?_
          refine st1 hS (fad rfl Tryd.runUnderlying116 rfl Tryd.sizeOf114 rfl) rfl fun a w hS => ?_
          obtain ⟨hk839, hM⟩ := wp_chk hM
          refine st1 hS (ixB rfl rfl Tryd.runUnderlying114 Tryd.sizeOf3 hk839) rfl fun a w hS => ?_
          refine st1 hS (ldR (xs := t771.counts_) (g := (ci .i64)) (pre := []) (post := [.slice A776 t771.symbols_.length c777]) 1 rfl hB774 rfl (by simp) rfl (fun _ => rfl) (inb_len hl775 hk839) rfl Tryd.isAgg3) rfl fun a w hS => ?_
          refine st1x (v := Value.int .i64) hS (asg rfl) rfl fun k_840 a w hz hS => ?_
          have hM := lt_to hz hM; clear hz
          refine wpList_nil ?_
          refine then_n ?_
          refine wp_seq ?_
          refine wp_seq ?_
          refine wp_region_list ?_
          refine st1 hS (mv rfl) rfl fun a w hS => ?_
          refine st1 hS (mv rfl) rfl fun a w hS => ?_
          refine st1 hS (bin rfl rfl rfl) rfl fun a w hS => ?_
          refine st1 hS (mv rfl) rfl fun a w hS => ?_
          refine st1 hS (bin rfl rfl rfl) rfl fun a w hS => ?_
          refine wpList_nil ?_
          refine then_n ?_
          refine s_cond hS rfl hM (fun hb841 hM => ?_) (fun hb841 hM => ?_)
          · refine wp_seq ?_
            refine wp_region_list ?_
            refine st1 hS (mv rfl) rfl fun a w hS => ?_
            refine st1 hS (nck rfl) rfl fun a w hS => ?_
            refine st1 hS (fad rfl Tryd.runUnderlying116 rfl Tryd.sizeOf74 rfl) rfl fun a w hS => ?_
            refine st1 hS (ldP 1 rfl hB774 rfl (by rfl) (flat_ln (g := (ci .i64)) (sz := 1) (fun _ => rfl) hl775) Tryd.isAgg74) rfl fun a w hS => ?_
            refine st1 hS (mv rfl) rfl fun a w hS => ?_
            refine st1 hS (mv rfl) rfl fun a w hS => ?_
            refine st1 hS (bin rfl rfl rfl) rfl fun a w hS => ?_
            refine st1 hS (mv rfl) rfl fun a w hS => ?_
            refine st1 hS (bin rfl rfl rfl) rfl fun a w hS => ?_
            obtain ⟨hk842, hM⟩ := wp_chk hM
            refine st1 hS (ixV rfl rfl Tryd.runUnderlying74 Tryd.sizeOf3 (hV779.rd (i := 2) rfl) (fun _ => rfl) rfl hk842) rfl fun a w hS => ?_
            refine st1 hS (ldV0 rfl (hV779.rd (i := 2) rfl) (fun _ => rfl) hk842 rfl Tryd.isAgg3) rfl fun a w hS => ?_
            refine st1x (v := Value.int .i64) hS (asg rfl) rfl fun v843 a w hz hS => ?_
            have hM := lt_to hz hM; clear hz
            refine st1 hS (asg rfl) rfl fun a w hS => ?_
            refine wpList_nil ?_
            refine then_n ?_
            refine wp_ret ?_
            refine then_ret (blk_ret (then_ret (then_ret (blk_ret (then_ret ?_)))))
            exact s_ret (rs := [4, 5]) hS rfl rfl (hret v843 (0 : Int) at_831 f832 w hM h833 (hS.st.pick [0, 1, 2] (by kernel_rfl)))
          · refine wp_skip ?_
            refine then_n ?_
            refine wp_seq ?_
            refine wp_region_list ?_
            refine st1 hS (mv rfl) rfl fun a w hS => ?_
            refine st1 hS (mv rfl) rfl fun a w hS => ?_
            refine st1 hS (bin rfl rfl rfl) rfl fun a w hS => ?_
            refine st1x (v := Value.int .i64) hS (asg rfl) rfl fun first844 a w hz hS => ?_
            have hM := lt_to hz hM; clear hz
            refine wpList_nil ?_
            refine then_n ?_
            refine wp_region_list ?_
            refine st1 hS (mv rfl) rfl fun a w hS => ?_
            refine st1 hS (mv rfl) rfl fun a w hS => ?_
            refine st1 hS (bin rfl rfl rfl) rfl fun a w hS => ?_
            refine st1x (v := Value.int .i64) hS (asg rfl) rfl fun passed845 a w hz hS => ?_
            have hM := lt_to hz hM; clear hz
            refine wpList_nil ?_
            refine blk_n (then_n ?_)
            refine wp_region_list ?_
            refine st1 hS (mv rfl) rfl fun a w hS => ?_
            refine st1 hS (bin rfl rfl rfl) rfl fun a w hS => ?_
            refine st1x (v := Value.int .i64) hS (asg rfl) rfl fun n_846 a w hz hS => ?_
            have hM := lt_to hz hM; clear hz
            refine wpList_nil ?_
            refine then_n ?_
            exact hJ847 _ _ ⟨at_831, f832, code837, first844, passed845, n_846, hS.to [0, 1, 2, 3] (by kernel_rfl) ⟨rfl, rfl, rfl, rfl, rfl, rfl, rfl, trivial⟩, h833, hM⟩
      · refine wp_exit ?_
        refine then_ex (then_ex (blk_same (then_n ?_)))
        exact hJ851 _ _ ⟨at_820, f821, hS.to [0, 1, 2, 3] (by kernel_rfl) ⟨rfl, rfl, trivial⟩, hB822, hM⟩
  · intro a w hI
    obtain ⟨at_848, f849, hS, hB850, hM⟩ := hI
    rw [huff_Table_Next.j2] at hM
    refine wp_seq ?_
    refine wp_region_list ?_
    refine st1 hS (mv rfl) rfl fun a w hS => ?_
    refine st1 hS (ldbA 3 rfl hB788 rfl ([.int .i64 r780.place_.at_, str r780.text_]) rfl rfl Tryd.isAgg65 Tryd.sizeOf65) rfl fun a w hS => ?_
    refine st1 hS (nck rfl) rfl fun a w hS => ?_
    refine stB 0 ([.int .i64 r780.place_.at_, str r780.text_]) ([.int .i64 r780.place_.at_, str r780.text_]) hS rfl rfl hB850 rfl rfl Tryd.sizeOf65 (by simp [Value.oneCell']) (Nat.le_of_ble_eq_true rfl) rfl fun w f852 hB853 hS => ?_
    refine wpList_nil ?_
    refine then_n ?_
    refine wp_seq ?_
    refine wp_region_list ?_
    refine st1 hS (asg rfl) rfl fun a w hS => ?_
    refine st1 hS (asg rfl) rfl fun a w hS => ?_
    refine wpList_nil ?_
    refine then_n ?_
    refine wp_ret ?_
    exact s_ret (rs := [4, 5]) hS rfl rfl (hret (0 : Int) (3 : Int) r780.place_.at_ f852 w hM hB853 (hS.st.pick [0, 1, 2] (by kernel_rfl)))

theorem inflate_reader_symbol_c {H : Imm} {F : List Frag} {w : World} {R : Ending → World → Prop} {kr : (Int × Int) → Prop} {kp : Value → Prop} (hG : Gl H) (K : Nat) (r751 : T_inflate_reader) (t762 : T_huff_Table) (b752 : Nat) (f753 : Frag) (b755 : Nat) (f756 : Frag) (A758 : Option Addr) (c759 : Nat) (f760 : Frag) (b763 : Nat) (f764 : Frag) (A767 : Option Addr) (c768 : Nat) (f769 : Frag) (hB754 : Blk f753 b752 ([ptr b755 0, .slice A758 r751.out_.length c759, .int .i64 r751.limit_]) 51) (hB757 : Blk f756 b755 ([.int .i64 r751.Reader_.place_.at_, str r751.Reader_.text_]) 65) (hV761 : Vec 5 (ci .u8) 1 A758 r751.out_ c759 f760) (hB765 : Blk f764 b763 ((t762.counts_.flatMap (ci .i64)) ++ [.slice A767 t762.symbols_.length c768]) 116) (hl766 : t762.counts_.length = 16) (hV770 : Vec 3 (ci .i64) 1 A767 t762.symbols_ c768 f769)
    (hS : St w H [f753, f756, f760, f764, f769] F) (hm : (inflate_reader_symbol.m K r751 t762).wp kr kp)
    (hret : ∀ (x864 : Int) (at_865 : Int) (f866 : Frag) (w : World), kr (x864, at_865) → (Blk f866 b755 ([.int .i64 at_865, str r751.Reader_.text_]) 65) → St w H [f764, f769, f753, f866, f760] F → R (.returned (.int .i64 x864)) w)
    (hpan : ∀ v w, kp v → St w H [] F → R (.panicked [⟨v, false, false⟩]) w) :
    Calls Tryd.prog 42 ⟨[ptr b752 0, ptr b763 0]⟩ w R := by
  refine enter Tryd.func42 rfl Tryd.ntmps42 rfl hS fun a w hS => ?_
  have hM := hm; clear hm
  rw [inflate_reader_symbol.m] at hM
  refine wp_seq ?_
  refine wp_region_list ?_
  refine st1 hS (asg rfl) rfl fun a w hS => ?_
  refine wpList_nil ?_
  refine then_n ?_
  refine wp_seq ?_
  refine wp_region_list ?_
  refine st1 hS (mv rfl) rfl fun a w hS => ?_
  refine st1 hS (mv rfl) rfl fun a w hS => ?_
  refine st1 hS (nck rfl) rfl fun a w hS => ?_
  refine st1 hS (fad rfl Tryd.runUnderlying51 rfl Tryd.sizeOf48 rfl) rfl fun a w hS => ?_
  refine st1 hS (ldb 0 rfl hB754 rfl rfl Tryd.isAgg48) rfl fun a w hS => ?_
  refine s_call hS rfl Tryd.call54 (huff_Table_Next_c hG K t762 r751.Reader_ b763 f764 A767 c768 f769 b755 f756 hB765 hl766 hV770 hB757 (hS.st.part 3 [3, 4, 1, 0, 2] (by kernel_rfl)) (wp_bind hM) (fun x859 x860 at_861 f862 w hM h863 hst => s_back hS.ev hst.appF rfl fun hS => ?_))
  replace hS : Ss _ _ _ H [f862, f764, f769, f753, f760] F _ _ := hS
  refine st1 hS (mv rfl) rfl fun a w hS => ?_
  refine st1 hS (ex rfl rfl) rfl fun a w hS => ?_
  refine st1 hS (ex rfl rfl) rfl fun a w hS => ?_
  refine st1 hS (asg rfl) rfl fun a w hS => ?_
  refine st1 hS (asg rfl) rfl fun a w hS => ?_
  refine wpList_nil ?_
  refine then_n ?_
  refine wp_seq ?_
  refine wp_region_list ?_
  refine st1 hS (mv rfl) rfl fun a w hS => ?_
  refine s_call hS rfl Tryd.call40 (inflate_must_c hG K x860 (hS.st.part 0 [0, 1, 2, 3, 4] (by kernel_rfl)) (wp_bind hM) (fun  w hM  hst => s_back hS.ev hst.appF rfl fun hS => ?_) (fun v w hk hst => s_pan (then_pan (⟨hS.ev.defs, hpan _ _ hk hst.appF.frame⟩))))
  replace hS : Ss _ _ _ H [f862, f764, f769, f753, f760] F _ _ := hS
  refine wpList_nil ?_
  refine then_n ?_
  refine wp_seq ?_
  refine wp_region_list ?_
  refine st1 hS (mv rfl) rfl fun a w hS => ?_
  refine st1 hS (asg rfl) rfl fun a w hS => ?_
  refine wpList_nil ?_
  refine then_n ?_
  refine wp_ret ?_
  exact s_ret (rs := [4]) hS rfl rfl (hret x859 at_861 f862 w hM h863 (hS.st.pick [1, 2, 3, 0, 4] (by kernel_rfl)))

theorem inflate_reader_far_c {H : Imm} {F : List Frag} {w : World} {R : Ending → World → Prop} {kr : (Int × Int) → Prop} {kp : Value → Prop} (hG : Gl H) (K : Nat) (r889 : T_inflate_reader) (x900 : T_inflate_run) (b890 : Nat) (f891 : Frag) (b893 : Nat) (f894 : Frag) (A896 : Option Addr) (c897 : Nat) (f898 : Frag) (hB892 : Blk f891 b890 ([ptr b893 0, .slice A896 r889.out_.length c897, .int .i64 r889.limit_]) 51) (hB895 : Blk f894 b893 ([.int .i64 r889.Reader_.place_.at_, str r889.Reader_.text_]) 65) (hV899 : Vec 5 (ci .u8) 1 A896 r889.out_ c897 f898)
    (hS : St w H [f891, f894, f898] F) (hm : (inflate_reader_far.m K r889 x900).wp kr kp)
    (hret : ∀ (x910 : Int) (at_911 : Int) (f912 : Frag) (w : World), kr (x910, at_911) → (Blk f912 b893 ([.int .i64 at_911, str r889.Reader_.text_]) 65) → St w H [f891, f912, f898] F → R (.returned (.int .i64 x910)) w)
    (hpan : ∀ v w, kp v → St w H [] F → R (.panicked [⟨v, false, false⟩]) w) :
    Calls Tryd.prog 43 ⟨[ptr b890 0, .agg ⟨[.int .i64 x900.from_, .int .i64 x900.bits_]⟩]⟩ w R := by
  refine enter Tryd.func43 rfl Tryd.ntmps43 rfl hS fun a w hS => ?_
  have hM := hm; clear hm
  rw [inflate_reader_far.m] at hM
  refine wp_seq ?_
  refine wp_region_list ?_
  refine bx ([.int .i64 x900.from_, .int .i64 x900.bits_]) hS rfl rfl rfl fun w b901 f902 hB903 hS => ?_
  refine st1 hS (asg rfl) rfl fun a w hS => ?_
  refine wpList_nil ?_
  refine then_n ?_
  refine wp_seq ?_
  refine draw_begin (vals := [some (ptr b901 0), some (.int .i64 x900.from_), some (ptr b890 0), some (ptr b901 1), some (.int .i64 x900.bits_), none, none, none]) hS mixed rfl ?_
  intro l w ho hcl hA hst
  refine phase' (vals := [some (ptr b901 0), some (.int .i64 x900.from_), some (ptr b890 0), some (ptr b901 1), some (.int .i64 x900.bits_), none, none, none]) 5 [] [0, 1, 2, 3, 4] rfl rfl rfl rfl (by exact ⟨nR rfl rfl rfl rfl rfl (by exact ovE (fad rfl Tryd.runUnderlying90 rfl Tryd.sizeOf3 rfl) rfl), nR rfl rfl rfl rfl rfl (by exact ovE (ldb 0 rfl hB903 rfl rfl Tryd.isAgg3) rfl), nR rfl rfl rfl rfl rfl (by exact ovE (mv rfl) rfl), nR rfl rfl rfl rfl rfl (by exact ovE (fad rfl Tryd.runUnderlying90 rfl Tryd.sizeOf3 rfl) rfl), nR rfl rfl rfl rfl rfl (by exact ovE (ldb 0 rfl hB903 rfl rfl Tryd.isAgg3) rfl), trivial⟩) (fun D l a w ho hcl hav hpre hm hE hk hA hst => ?_) ho hcl (fun j hj => (List.not_mem_nil hj).elim) (fun m hm => (List.not_mem_nil hm).elim) List.not_mem_nil hA hst
  have hS := (Ss.mk hE hst).env2 (e' := [(7, ptr b890 0), (9, .int .i64 x900.bits_)]) ⟨rfl, rfl, trivial⟩
  refine op_of_nth rfl ?_
  refine s_call hS rfl Tryd.call27 (inflate_reader_number_c hG K r889 x900.bits_ b890 f891 b893 f894 A896 c897 f898 hB892 hB895 hV899 (hS.st.part 3 [1, 2, 3, 0] (by kernel_rfl)) (wp_bind hM) (fun x904 at_905 f906 w hM h907 hst => s_back hS.ev hst.appF rfl fun hS => ?_) (fun v w hk hst => s_pan (then_pan (then_pan (⟨hS.ev.defs, hpan _ _ hk hst.appF.frame⟩)))))
  replace hS : Ss _ _ _ H [f891, f906, f898, f902] F _ _ := hS
  refine wpList_nil (then_n ?_)
  have hcl2 := hcl.cons (k := 5) (nth_get rfl) hpre
  have hmust := must_cons (k := 5) hm (chain (k := 5) hcl (nth_get rfl) hpre [(2, 5), (4, 5), (3, 4)] [] rfl (fun _ h => absurd h List.not_mem_nil))
  replace hst := hS.st
  obtain ⟨v908, hz909⟩ : ∃ x, x = (w64 (x900.from_ + x904)) := ⟨_, rfl⟩
  replace hM := lt_to hz909 hM
  have hav2 := hav.cons (vals' := [some (ptr b901 0), some (.int .i64 x900.from_), some (ptr b890 0), some (ptr b901 1), some (.int .i64 x900.bits_), some (.int .i64 x904), some (.int .i64 (w64 (x900.from_ + x904))), some (.int .i64 v908)]) (k := 5) ⟨rfl, rfl, rfl, rfl, rfl, trivial⟩ rfl
  replace hA := (hA.next hav (subV.get (l' := [some (ptr b901 0), some (.int .i64 x900.from_), some (ptr b890 0), some (ptr b901 1), some (.int .i64 x900.bits_), some (.int .i64 x904), some (.int .i64 (w64 (x900.from_ + x904))), some (.int .i64 v908)]) ⟨rfl, rfl, rfl, rfl, rfl, trivial⟩)).step rfl (nth_get rfl) hk rfl rfl rfl
  clear hm hav
  replace hcl := hcl2
  refine phaseE (vals := [some (ptr b901 0), some (.int .i64 x900.from_), some (ptr b890 0), some (ptr b901 1), some (.int .i64 x900.bits_), some (.int .i64 x904), some (.int .i64 (w64 (x900.from_ + x904))), some (.int .i64 v908)]) [5, 2, 4, 3] [0, 1, 6, 7] rfl rfl rfl (by exact ⟨nR rfl rfl rfl rfl rfl (by exact ovE (fad rfl Tryd.runUnderlying90 rfl Tryd.sizeOf3 rfl) rfl), nR rfl rfl rfl rfl rfl (by exact ovE (ldb 3 rfl hB903 rfl rfl Tryd.isAgg3) rfl), nR rfl rfl rfl rfl rfl (by exact ovE (bin rfl rfl rfl) rfl), nR rfl rfl rfl rfl rfl (by exact ovE (asg rfl) (congrArg (Value.int .i64) hz909.symm)), trivial⟩) (fun a w hS => ?_) ho hcl hmust hA hst
  replace hS := hS.env2 (e' := [(4, .int .i64 v908)]) ⟨rfl, trivial⟩
  refine then_n ?_
  refine wp_ret ?_
  exact s_ret (rs := [4]) hS rfl rfl (hret v908 at_905 f906 w hM h907 (hS.st.pick [0, 1, 2] (by kernel_rfl)))

theorem inflate_reader_symbols_c {H : Imm} {F : List Frag} {w : World} {R : Ending → World → Prop} {kr : (Int × (List Int)) → Prop} {kp : Value → Prop} (hG : Gl H) (K : Nat) (r721 : T_inflate_reader) (literals732 : T_huff_Table) (back741 : T_huff_Table) (b722 : Nat) (f723 : Frag) (b725 : Nat) (f726 : Frag) (A728 : Option Addr) (c729 : Nat) (f730 : Frag) (b733 : Nat) (f734 : Frag) (A737 : Option Addr) (c738 : Nat) (f739 : Frag) (b742 : Nat) (f743 : Frag) (A746 : Option Addr) (c747 : Nat) (f748 : Frag) (hB724 : Blk f723 b722 ([ptr b725 0, .slice A728 r721.out_.length c729, .int .i64 r721.limit_]) 51) (hB727 : Blk f726 b725 ([.int .i64 r721.Reader_.place_.at_, str r721.Reader_.text_]) 65) (hV731 : Vec 5 (ci .u8) 1 A728 r721.out_ c729 f730) (hB735 : Blk f734 b733 ((literals732.counts_.flatMap (ci .i64)) ++ [.slice A737 literals732.symbols_.length c738]) 116) (hl736 : literals732.counts_.length = 16) (hV740 : Vec 3 (ci .i64) 1 A737 literals732.symbols_ c738 f739) (hB744 : Blk f743 b742 ((back741.counts_.flatMap (ci .i64)) ++ [.slice A746 back741.symbols_.length c747]) 116) (hl745 : back741.counts_.length = 16) (hV749 : Vec 3 (ci .i64) 1 A746 back741.symbols_ c747 f748)
    (hS : St w H [f723, f726, f730, f734, f739, f743, f748] F) (hm : (inflate_reader_symbols.m K r721 literals732 back741).wp kr kp)
    (hret : ∀ (at_1083 : Int) (f1084 : Frag) (A1086 : Option Addr) (c1087 : Nat) (out1088 : (List Int)) (f1089 : Frag) (f1091 : Frag) (w : World), kr (at_1083, out1088) → (Blk f1084 b725 ([.int .i64 at_1083, str r721.Reader_.text_]) 65) → (Vec 5 (ci .u8) 1 A1086 out1088 c1087 f1089) → (Blk f1091 b722 ([ptr b725 0, .slice A1086 out1088.length c1087, .int .i64 r721.limit_]) 51) → St w H [f743, f748, f734, f739, f1091, f1084, f1089] F → R (.returned (.tuple ⟨[]⟩)) w)
    (hpan : ∀ v w, kp v → St w H [] F → R (.panicked [⟨v, false, false⟩]) w) :
    Calls Tryd.prog 29 ⟨[ptr b722 0, ptr b733 0, ptr b742 0]⟩ w R := by
  refine enter Tryd.func29 rfl Tryd.ntmps29 rfl hS fun a w hS => ?_
  have hM := hm; clear hm
  rw [inflate_reader_symbols.m] at hM
  refine wp_block ?_
  refine s_loopJ (fun k997 a w => ∃ (at_987 : Int) (f988 : Frag) (A990 : Option Addr) (c991 : Nat) (out992 : (List Int)) (f993 : Frag) (f995 : Frag), Ss 108 [] [(0, ptr b722 0), (1, ptr b733 0), (2, ptr b742 0)] H [f743, f748, f734, f739, f995, f988, f993] F a w ∧ (Blk f988 b725 ([.int .i64 at_987, str r721.Reader_.text_]) 65) ∧ (Vec 5 (ci .u8) 1 A990 out992 c991 f993) ∧ (Blk f995 b722 ([ptr b725 0, .slice A990 out992.length c991, .int .i64 r721.limit_]) 51) ∧ (inflate_reader_symbols.l1 K r721 literals732 back741 k997 at_987 out992).wp kr kp) K ?_ ?_ ?_
  · exact ⟨r721.Reader_.place_.at_, f726, A728, c729, r721.out_, f730, f723, hS.to [5, 6, 3, 4, 0, 1, 2] (by kernel_rfl) ⟨rfl, rfl, rfl, trivial⟩, hB727, hV731, hB724, hM⟩
  · intro a w hI; obtain ⟨_, _, _, _, _, _, _, _, _, _, _, hM⟩ := hI; exact hM
  · intro k997 a w hI J1082 hJ1082
    obtain ⟨at_987, f988, A990, c991, out992, f993, f995, hS, hB989, hV994, hB996, hM⟩ := hI
    rw [inflate_reader_symbols.l1] at hM
    refine wp_block ?_
    refine wp_seq ?_
    refine wp_region_list ?_
    refine st1 hS (mv rfl) rfl fun a w hS => ?_
    refine st1 hS (mv rfl) rfl fun a w hS => ?_
    refine s_call hS rfl Tryd.call42 (inflate_reader_symbol_c hG K (T_inflate_reader.mk (T_bits_Reader.mk (T_bits_place.mk at_987) r721.Reader_.text_) out992 r721.limit_) literals732 b722 f995 b725 f988 A990 c991 f993 b733 f734 A737 c738 f739 hB996 hB989 hV994 hB735 hl736 hV740 (hS.st.part 5 [4, 5, 6, 2, 3, 0, 1] (by kernel_rfl)) (wp_bind hM) (fun x998 at_999 f1000 w hM h1001 hst => s_back hS.ev hst.appF rfl fun hS => ?_) (fun v w hk hst => s_pan (then_pan (blk_pan (then_pan (blk_pan (⟨hS.ev.defs, hpan _ _ hk hst.appF.frame⟩)))))))
    replace hS : Ss _ _ _ H [f734, f739, f995, f1000, f993, f743, f748] F _ _ := hS
    refine st1 hS (asg rfl) rfl fun a w hS => ?_
    refine wpList_nil ?_
    refine then_n ?_
    refine wp_seq ?_
    refine wp_block ?_
    refine wp_seq ?_
    refine wp_region_list ?_
    refine st1 hS (mv rfl) rfl fun a w hS => ?_
    refine st1 hS (bin rfl rfl rfl) rfl fun a w hS => ?_
    refine st1x (v := Value.bool) hS (asg rfl) rfl fun v1002 a w hz hS => ?_
    have hM := lt_to hz hM; clear hz
    refine wpList_nil ?_
    refine then_n ?_
    refine s_cond hS rfl hM (fun hb1003 hM => ?_) (fun hb1003 hM => ?_)
    · refine wp_ret ?_
      refine blk_ret (then_ret (blk_ret (then_ret (blk_ret ?_))))
      exact s_ret (rs := []) hS rfl rfl (hret at_999 f1000 A990 c991 out992 f993 f995 w hM h1001 hV994 hB996 (hS.st.pick [5, 6, 0, 1, 2, 3, 4] (by kernel_rfl)))
    · refine wp_seq ?_
      refine wp_region_list ?_
      refine st1 hS (mv rfl) rfl fun a w hS => ?_
      refine st1 hS (bin rfl rfl rfl) rfl fun a w hS => ?_
      refine st1x (v := Value.bool) hS (asg rfl) rfl fun v1004 a w hz hS => ?_
      have hM := lt_to hz hM; clear hz
      refine wpList_nil ?_
      refine then_n ?_
      refine s_cond hS rfl hM (fun hb1005 hM => ?_) (fun hb1005 hM => ?_)
      · refine wp_seq ?_
        refine draw_begin (vals := [some (ptr b722 0), some (ptr b722 0), some (ptr b722 1), some (.slice A990 out992.length c991), some (.int .i64 (out992.length : Int)), some (ptr b722 0), some (ptr b722 0), some (ptr b722 2), some (.int .i64 r721.limit_), some (.bool ((out992.length : Int) == r721.limit_)), none]) hS mixed rfl ?_
        intro l w ho hcl hA hst
        refine phase' (vals := [some (ptr b722 0), some (ptr b722 0), some (ptr b722 1), some (.slice A990 out992.length c991), some (.int .i64 (out992.length : Int)), some (ptr b722 0), some (ptr b722 0), some (ptr b722 2), some (.int .i64 r721.limit_), some (.bool ((out992.length : Int) == r721.limit_)), none]) 10 [] [0, 1, 2, 3, 4, 5, 6, 7, 8, 9] rfl rfl rfl rfl (by exact ⟨nR rfl rfl rfl rfl rfl (by exact ovE (mv rfl) rfl), nR rfl rfl rfl rfl rfl (by exact ovE (nck rfl) rfl), nR rfl rfl rfl rfl rfl (by exact ovE (fad rfl Tryd.runUnderlying51 rfl Tryd.sizeOf27 rfl) rfl), nR rfl rfl rfl rfl rfl (by exact ovE (ldb 2 rfl hB996 rfl rfl Tryd.isAgg27) rfl), nR rfl rfl rfl rfl rfl (by exact ovE (lenV rfl Tryd.runUnderlying27) rfl), nR rfl rfl rfl rfl rfl (by exact ovE (mv rfl) rfl), nR rfl rfl rfl rfl rfl (by exact ovE (nck rfl) rfl), nR rfl rfl rfl rfl rfl (by exact ovE (fad rfl Tryd.runUnderlying51 rfl Tryd.sizeOf3 rfl) rfl), nR rfl rfl rfl rfl rfl (by exact ovE (ldb 2 rfl hB996 rfl rfl Tryd.isAgg3) rfl), nR rfl rfl rfl rfl rfl (by exact ovE (bin rfl rfl rfl) rfl), trivial⟩) (fun D l a w ho hcl hav hpre hm hE hk hA hst => ?_) ho hcl (fun j hj => (List.not_mem_nil hj).elim) (fun m hm => (List.not_mem_nil hm).elim) List.not_mem_nil hA hst
        have hS := (Ss.mk hE hst).env2 (e' := [(28, .bool ((out992.length : Int) == r721.limit_))]) ⟨rfl, trivial⟩
        refine op_of_nth rfl ?_
        refine s_call hS rfl Tryd.call32 (inflate_refuse_c hG K ((out992.length : Int) == r721.limit_) (11 : Int) (hS.st.part 0 [0, 1, 2, 3, 4, 5, 6] (by kernel_rfl)) (wp_bind hM) (fun  w hM  hst => s_back hS.ev hst.appF rfl fun hS => ?_) (fun v w hk hst => s_pan (then_pan (then_pan (blk_pan (then_pan (blk_pan (then_pan (blk_pan (⟨hS.ev.defs, hpan _ _ hk hst.appF.frame⟩))))))))))
        replace hS : Ss _ _ _ H [f734, f739, f995, f1000, f993, f743, f748] F _ _ := hS
        refine wpList_nil (then_n ?_)
        have hcl2 := hcl.cons (k := 10) (nth_get rfl) hpre
        have hmust := must_cons (k := 10) hm (chain (k := 10) hcl (nth_get rfl) hpre [(9, 10), (4, 9), (8, 9), (3, 4), (7, 8), (2, 3), (6, 7), (1, 2), (5, 6), (0, 1)] [] rfl (fun _ h => absurd h List.not_mem_nil))
        replace hst := hS.st
        have hav2 := hav.cons (vals' := [some (ptr b722 0), some (ptr b722 0), some (ptr b722 1), some (.slice A990 out992.length c991), some (.int .i64 (out992.length : Int)), some (ptr b722 0), some (ptr b722 0), some (ptr b722 2), some (.int .i64 r721.limit_), some (.bool ((out992.length : Int) == r721.limit_)), some (.tuple ⟨[]⟩)]) (k := 10) ⟨rfl, rfl, rfl, rfl, rfl, rfl, rfl, rfl, rfl, rfl, trivial⟩ rfl
        replace hA := (hA.next hav (subV.get (l' := [some (ptr b722 0), some (ptr b722 0), some (ptr b722 1), some (.slice A990 out992.length c991), some (.int .i64 (out992.length : Int)), some (ptr b722 0), some (ptr b722 0), some (ptr b722 2), some (.int .i64 r721.limit_), some (.bool ((out992.length : Int) == r721.limit_)), some (.tuple ⟨[]⟩)]) ⟨rfl, rfl, rfl, rfl, rfl, rfl, rfl, rfl, rfl, rfl, trivial⟩)).step rfl (nth_get rfl) hk rfl rfl rfl
        clear hm hav
        replace hcl := hcl2
        refine phaseE (vals := [some (ptr b722 0), some (ptr b722 0), some (ptr b722 1), some (.slice A990 out992.length c991), some (.int .i64 (out992.length : Int)), some (ptr b722 0), some (ptr b722 0), some (ptr b722 2), some (.int .i64 r721.limit_), some (.bool ((out992.length : Int) == r721.limit_)), some (.tuple ⟨[]⟩)]) [10, 9, 4, 8, 3, 7, 2, 6, 1, 5, 0] [] rfl rfl rfl trivial (fun a w hS => ?_) ho hcl hmust hA hst
        replace hS := hS.env2 (e' := [(0, ptr b722 0), (1, ptr b733 0), (2, ptr b742 0), (6, .int .i64 x998)]) ⟨rfl, rfl, rfl, rfl, trivial⟩
        refine then_n ?_
        refine wp_seq ?_
        refine wp_region_list ?_
        refine st1 hS (mv rfl) rfl fun a w hS => ?_
        refine st1 hS (mv rfl) rfl fun a w hS => ?_
        refine st1 hS (nck rfl) rfl fun a w hS => ?_
        refine st1 hS (fad rfl Tryd.runUnderlying51 rfl Tryd.sizeOf27 rfl) rfl fun a w hS => ?_
        refine st1 hS (ldb 2 rfl hB996 rfl rfl Tryd.isAgg27) rfl fun a w hS => ?_
        refine st1 hS (mv rfl) rfl fun a w hS => ?_
        refine st1 hS (cvi rfl Tryd.runUnderlying3 Tryd.runUnderlying5) rfl fun a w hS => ?_
        refine bsl (g := (ci .u8)) ([(wr .u8 x998)] : List Int) [.int .u8 (wr .u8 x998)] hS Tryd.runUnderlying27 Tryd.sizeOf5 X.el5 rfl rfl rfl (by simp [Value.cells]) rfl rfl rfl rfl rfl fun w A1006 c1007 f1008 hV1009 hS => ?_
        obtain ⟨hk1010, hM⟩ := wp_chk hM
        refine apV (ys := ([(wr .u8 x998)] : List Int)) 5 hS rfl rfl hV994 rfl (hV1009.rd (i := 0) rfl) Tryd.runUnderlying27 Tryd.runUnderlying27 X.el5 (fun _ => rfl) rfl one_t5 hk1010 rfl fun zs1015 w A1011 c1012 f1013 hz hV1014 hS => ?_
        have hM := lt_to hz hM; clear hz
        refine st1 hS (nck rfl) rfl fun a w hS => ?_
        refine st1 hS (fad rfl Tryd.runUnderlying51 rfl Tryd.sizeOf27 rfl) rfl fun a w hS => ?_
        refine sto 3 ([ptr b725 0, .slice A1011 zs1015.length c1012, .int .i64 r721.limit_]) hS rfl rfl hB996 rfl rfl rfl rfl Tryd.sizeOf27 fun w f1016 hB1017 hS => ?_
        refine wpList_nil ?_
        refine then_n ?_
        refine wp_exit ?_
        refine blk_ne rfl (then_ex (blk_same (then_n ?_)))
        exact hJ1082 _ _ ⟨at_999, f1000, A1011, c1012, zs1015, f1013, f1016, hS.to [6, 7, 1, 2, 3, 4, 5] (by kernel_rfl) ⟨rfl, rfl, rfl, trivial⟩, h1001, hV1014, hB1017, hM⟩
      · refine wp_skip ?_
        refine blk_n (then_n ?_)
        refine wp_seq ?_
        refine wp_region_list ?_
        refine st1 hS (mv rfl) rfl fun a w hS => ?_
        refine st1 hS (bin rfl rfl rfl) rfl fun a w hS => ?_
        refine s_call hS rfl Tryd.call32 (inflate_refuse_c hG K (decide (x998 ≥ (286 : Int))) (3 : Int) (hS.st.part 0 [0, 1, 2, 3, 4, 5, 6] (by kernel_rfl)) (wp_bind hM) (fun  w hM  hst => s_back hS.ev hst.appF rfl fun hS => ?_) (fun v w hk hst => s_pan (then_pan (blk_pan (then_pan (blk_pan (⟨hS.ev.defs, hpan _ _ hk hst.appF.frame⟩)))))))
        replace hS : Ss _ _ _ H [f734, f739, f995, f1000, f993, f743, f748] F _ _ := hS
        refine wpList_nil ?_
        refine then_n ?_
        refine wp_seq ?_
        refine wp_region_list ?_
        refine st1 hS (mv rfl) rfl fun a w hS => ?_
        refine st1 hS (mv rfl) rfl fun a w hS => ?_
        refine st1 hS (bin rfl rfl rfl) rfl fun a w hS => ?_
        obtain ⟨hk1018, hM⟩ := wp_chk hM
        refine st1 hS (ixB rfl rfl Tryd.runUnderlying91 Tryd.sizeOf90 hk1018) rfl fun a w hS => ?_
        refine st1 hS (ldGA rfl hG.g0 (fun _ => rfl) hk1018 Tryd.isAgg90 Tryd.sizeOf90) rfl fun a w hS => ?_
        refine s_call hS rfl Tryd.call43 (inflate_reader_far_c hG K (T_inflate_reader.mk (T_bits_Reader.mk (T_bits_place.mk at_999) r721.Reader_.text_) out992 r721.limit_) (T_inflate_run.mk ((rd tab_inflate_lengths (w64 (x998 - (257 : Int)))).from_) ((rd tab_inflate_lengths (w64 (x998 - (257 : Int)))).bits_)) b722 f995 b725 f1000 A990 c991 f993 hB996 h1001 hV994 (hS.st.part 3 [2, 3, 4, 0, 1, 5, 6] (by kernel_rfl)) (wp_bind hM) (fun x1019 at_1020 f1021 w hM h1022 hst => s_back hS.ev hst.appF rfl fun hS => ?_) (fun v w hk hst => s_pan (then_pan (blk_pan (then_pan (blk_pan (⟨hS.ev.defs, hpan _ _ hk hst.appF.frame⟩)))))))
        replace hS : Ss _ _ _ H [f995, f1021, f993, f734, f739, f743, f748] F _ _ := hS
        refine st1 hS (asg rfl) rfl fun a w hS => ?_
        refine wpList_nil ?_
        refine then_n ?_
        refine wp_seq ?_
        refine wp_region_list ?_
        refine st1 hS (mv rfl) rfl fun a w hS => ?_
        refine st1 hS (mv rfl) rfl fun a w hS => ?_
        refine s_call hS rfl Tryd.call42 (inflate_reader_symbol_c hG K (T_inflate_reader.mk (T_bits_Reader.mk (T_bits_place.mk at_1020) r721.Reader_.text_) out992 r721.limit_) back741 b722 f995 b725 f1021 A990 c991 f993 b742 f743 A746 c747 f748 hB996 h1022 hV994 hB744 hl745 hV749 (hS.st.part 5 [0, 1, 2, 5, 6, 3, 4] (by kernel_rfl)) (wp_bind hM) (fun x1023 at_1024 f1025 w hM h1026 hst => s_back hS.ev hst.appF rfl fun hS => ?_) (fun v w hk hst => s_pan (then_pan (blk_pan (then_pan (blk_pan (⟨hS.ev.defs, hpan _ _ hk hst.appF.frame⟩)))))))
        replace hS : Ss _ _ _ H [f743, f748, f995, f1025, f993, f734, f739] F _ _ := hS
        refine st1 hS (asg rfl) rfl fun a w hS => ?_
        refine wpList_nil ?_
        refine then_n ?_
        refine wp_seq ?_
        refine wp_region_list ?_
        refine st1 hS (mv rfl) rfl fun a w hS => ?_
        refine st1 hS (bin rfl rfl rfl) rfl fun a w hS => ?_
        refine s_call hS rfl Tryd.call32 (inflate_refuse_c hG K (decide (x1023 ≥ (30 : Int))) (3 : Int) (hS.st.part 0 [0, 1, 2, 3, 4, 5, 6] (by kernel_rfl)) (wp_bind hM) (fun  w hM  hst => s_back hS.ev hst.appF rfl fun hS => ?_) (fun v w hk hst => s_pan (then_pan (blk_pan (then_pan (blk_pan (⟨hS.ev.defs, hpan _ _ hk hst.appF.frame⟩)))))))
        replace hS : Ss _ _ _ H [f743, f748, f995, f1025, f993, f734, f739] F _ _ := hS
        refine wpList_nil ?_
        refine then_n ?_
        refine wp_seq ?_
        refine wp_region_list ?_
        refine st1 hS (mv rfl) rfl fun a w hS => ?_
        refine st1 hS (mv rfl) rfl fun a w hS => ?_
        obtain ⟨hk1027, hM⟩ := wp_chk hM
        refine st1 hS (ixB rfl rfl Tryd.runUnderlying92 Tryd.sizeOf90 hk1027) rfl fun a w hS => ?_
        refine st1 hS (ldGA rfl hG.g1 (fun _ => rfl) hk1027 Tryd.isAgg90 Tryd.sizeOf90) rfl fun a w hS => ?_
        refine s_call hS rfl Tryd.call43 (inflate_reader_far_c hG K (T_inflate_reader.mk (T_bits_Reader.mk (T_bits_place.mk at_1024) r721.Reader_.text_) out992 r721.limit_) (T_inflate_run.mk ((rd tab_inflate_distances x1023).from_) ((rd tab_inflate_distances x1023).bits_)) b722 f995 b725 f1025 A990 c991 f993 hB996 h1026 hV994 (hS.st.part 3 [2, 3, 4, 0, 1, 5, 6] (by kernel_rfl)) (wp_bind hM) (fun x1028 at_1029 f1030 w hM h1031 hst => s_back hS.ev hst.appF rfl fun hS => ?_) (fun v w hk hst => s_pan (then_pan (blk_pan (then_pan (blk_pan (⟨hS.ev.defs, hpan _ _ hk hst.appF.frame⟩)))))))
        replace hS : Ss _ _ _ H [f995, f1030, f993, f743, f748, f734, f739] F _ _ := hS
        refine st1 hS (asg rfl) rfl fun a w hS => ?_
        refine wpList_nil ?_
        refine then_n ?_
        refine wp_seq ?_
        refine wp_region_list ?_
        refine st1 hS (mv rfl) rfl fun a w hS => ?_
        refine st1 hS (mv rfl) rfl fun a w hS => ?_
        refine st1 hS (nck rfl) rfl fun a w hS => ?_
        refine st1 hS (fad rfl Tryd.runUnderlying51 rfl Tryd.sizeOf27 rfl) rfl fun a w hS => ?_
        refine st1 hS (ldb 0 rfl hB996 rfl rfl Tryd.isAgg27) rfl fun a w hS => ?_
        refine st1 hS (lenV rfl Tryd.runUnderlying27) rfl fun a w hS => ?_
        refine st1 hS (bin rfl rfl rfl) rfl fun a w hS => ?_
        refine s_call hS rfl Tryd.call32 (inflate_refuse_c hG K (decide (x1028 > (out992.length : Int))) (3 : Int) (hS.st.part 0 [0, 1, 2, 3, 4, 5, 6] (by kernel_rfl)) (wp_bind hM) (fun  w hM  hst => s_back hS.ev hst.appF rfl fun hS => ?_) (fun v w hk hst => s_pan (then_pan (blk_pan (then_pan (blk_pan (⟨hS.ev.defs, hpan _ _ hk hst.appF.frame⟩)))))))
        replace hS : Ss _ _ _ H [f995, f1030, f993, f743, f748, f734, f739] F _ _ := hS
        refine wpList_nil ?_
        refine then_n ?_
        refine wp_seq ?_
        refine draw_begin (vals := [some (ptr b722 0), some (ptr b722 0), some (ptr b722 1), some (.slice A990 out992.length c991), some (.int .i64 (out992.length : Int)), some (.int .i64 x1019), some (.int .i64 (w64 ((out992.length : Int) + x1019))), some (ptr b722 0), some (ptr b722 0), some (ptr b722 2), some (.int .i64 r721.limit_), some (.bool (decide ((w64 ((out992.length : Int) + x1019)) > r721.limit_))), none]) hS mixed rfl ?_
        intro l w ho hcl hA hst
        refine phase' (vals := [some (ptr b722 0), some (ptr b722 0), some (ptr b722 1), some (.slice A990 out992.length c991), some (.int .i64 (out992.length : Int)), some (.int .i64 x1019), some (.int .i64 (w64 ((out992.length : Int) + x1019))), some (ptr b722 0), some (ptr b722 0), some (ptr b722 2), some (.int .i64 r721.limit_), some (.bool (decide ((w64 ((out992.length : Int) + x1019)) > r721.limit_))), none]) 12 [] [0, 1, 2, 3, 4, 5, 6, 7, 8, 9, 10, 11] rfl rfl rfl rfl (by exact ⟨nR rfl rfl rfl rfl rfl (by exact ovE (mv rfl) rfl), nR rfl rfl rfl rfl rfl (by exact ovE (nck rfl) rfl), nR rfl rfl rfl rfl rfl (by exact ovE (fad rfl Tryd.runUnderlying51 rfl Tryd.sizeOf27 rfl) rfl), nR rfl rfl rfl rfl rfl (by exact ovE (ldb 0 rfl hB996 rfl rfl Tryd.isAgg27) rfl), nR rfl rfl rfl rfl rfl (by exact ovE (lenV rfl Tryd.runUnderlying27) rfl), nR rfl rfl rfl rfl rfl (by exact ovE (mv rfl) rfl), nR rfl rfl rfl rfl rfl (by exact ovE (bin rfl rfl rfl) rfl), nR rfl rfl rfl rfl rfl (by exact ovE (mv rfl) rfl), nR rfl rfl rfl rfl rfl (by exact ovE (nck rfl) rfl), nR rfl rfl rfl rfl rfl (by exact ovE (fad rfl Tryd.runUnderlying51 rfl Tryd.sizeOf3 rfl) rfl), nR rfl rfl rfl rfl rfl (by exact ovE (ldb 0 rfl hB996 rfl rfl Tryd.isAgg3) rfl), nR rfl rfl rfl rfl rfl (by exact ovE (bin rfl rfl rfl) rfl), trivial⟩) (fun D l a w ho hcl hav hpre hm hE hk hA hst => ?_) ho hcl (fun j hj => (List.not_mem_nil hj).elim) (fun m hm => (List.not_mem_nil hm).elim) List.not_mem_nil hA hst
        have hS := (Ss.mk hE hst).env2 (e' := [(80, .bool (decide ((w64 ((out992.length : Int) + x1019)) > r721.limit_)))]) ⟨rfl, trivial⟩
        refine op_of_nth rfl ?_
        refine s_call hS rfl Tryd.call32 (inflate_refuse_c hG K (decide ((w64 ((out992.length : Int) + x1019)) > r721.limit_)) (11 : Int) (hS.st.part 0 [0, 1, 2, 3, 4, 5, 6] (by kernel_rfl)) (wp_bind hM) (fun  w hM  hst => s_back hS.ev hst.appF rfl fun hS => ?_) (fun v w hk hst => s_pan (then_pan (then_pan (blk_pan (then_pan (blk_pan (⟨hS.ev.defs, hpan _ _ hk hst.appF.frame⟩))))))))
        replace hS : Ss _ _ _ H [f995, f1030, f993, f743, f748, f734, f739] F _ _ := hS
        refine wpList_nil (then_n ?_)
        have hcl2 := hcl.cons (k := 12) (nth_get rfl) hpre
        have hmust := must_cons (k := 12) hm (chain (k := 12) hcl (nth_get rfl) hpre [(11, 12), (6, 11), (10, 11), (4, 6), (5, 6), (9, 10), (3, 4), (8, 9), (2, 3), (7, 8), (1, 2), (0, 1)] [] rfl (fun _ h => absurd h List.not_mem_nil))
        replace hst := hS.st
        have hav2 := hav.cons (vals' := [some (ptr b722 0), some (ptr b722 0), some (ptr b722 1), some (.slice A990 out992.length c991), some (.int .i64 (out992.length : Int)), some (.int .i64 x1019), some (.int .i64 (w64 ((out992.length : Int) + x1019))), some (ptr b722 0), some (ptr b722 0), some (ptr b722 2), some (.int .i64 r721.limit_), some (.bool (decide ((w64 ((out992.length : Int) + x1019)) > r721.limit_))), some (.tuple ⟨[]⟩)]) (k := 12) ⟨rfl, rfl, rfl, rfl, rfl, rfl, rfl, rfl, rfl, rfl, rfl, rfl, trivial⟩ rfl
        replace hA := (hA.next hav (subV.get (l' := [some (ptr b722 0), some (ptr b722 0), some (ptr b722 1), some (.slice A990 out992.length c991), some (.int .i64 (out992.length : Int)), some (.int .i64 x1019), some (.int .i64 (w64 ((out992.length : Int) + x1019))), some (ptr b722 0), some (ptr b722 0), some (ptr b722 2), some (.int .i64 r721.limit_), some (.bool (decide ((w64 ((out992.length : Int) + x1019)) > r721.limit_))), some (.tuple ⟨[]⟩)]) ⟨rfl, rfl, rfl, rfl, rfl, rfl, rfl, rfl, rfl, rfl, rfl, rfl, trivial⟩)).step rfl (nth_get rfl) hk rfl rfl rfl
        clear hm hav
        replace hcl := hcl2
        refine phaseE (vals := [some (ptr b722 0), some (ptr b722 0), some (ptr b722 1), some (.slice A990 out992.length c991), some (.int .i64 (out992.length : Int)), some (.int .i64 x1019), some (.int .i64 (w64 ((out992.length : Int) + x1019))), some (ptr b722 0), some (ptr b722 0), some (ptr b722 2), some (.int .i64 r721.limit_), some (.bool (decide ((w64 ((out992.length : Int) + x1019)) > r721.limit_))), some (.tuple ⟨[]⟩)]) [12, 11, 6, 10, 4, 5, 9, 3, 8, 2, 7, 1, 0] [] rfl rfl rfl trivial (fun a w hS => ?_) ho hcl hmust hA hst
        replace hS := hS.env2 (e' := [(0, ptr b722 0), (1, ptr b733 0), (2, ptr b742 0), (7, .int .i64 x1019), (9, .int .i64 x1028)]) ⟨rfl, rfl, rfl, rfl, rfl, trivial⟩
        refine then_n ?_
        refine wp_seq ?_
        refine wp_region_list ?_
        refine st1 hS (mv rfl) rfl fun a w hS => ?_
        refine st1 hS (mv rfl) rfl fun a w hS => ?_
        refine wpList_nil ?_
        refine then_n ?_
        refine wp_block ?_
        refine s_loopJ (fun k1065 a w => ∃ (A1057 : Option Addr) (c1058 : Nat) (out1059 : (List Int)) (f1060 : Frag) (f1062 : Frag) (v1064 : Int), Ss 108 [] [(0, ptr b722 0), (1, ptr b733 0), (2, ptr b742 0), (9, .int .i64 x1028), (82, .int .i64 x1019), (83, .int .i64 v1064)] H [f743, f748, f734, f739, f1062, f1030, f1060] F a w ∧ (Vec 5 (ci .u8) 1 A1057 out1059 c1058 f1060) ∧ (Blk f1062 b722 ([ptr b725 0, .slice A1057 out1059.length c1058, .int .i64 r721.limit_]) 51) ∧ (inflate_reader_symbols.l2 K (inflate_reader_symbols.l1 K r721 literals732 back741 k997) x1019 x1028 at_1029 k1065 out1059 v1064).wp kr kp) K ?_ ?_ ?_
        · exact ⟨A990, c991, out992, f993, f995, (0 : Int), hS.to [3, 4, 5, 6, 0, 1, 2] (by kernel_rfl) ⟨rfl, rfl, rfl, rfl, rfl, rfl, trivial⟩, hV994, hB996, hM⟩
        · intro a w hI; obtain ⟨_, _, _, _, _, _, _, _, _, hM⟩ := hI; exact hM
        · intro k1065 a w hI J1081 hJ1081
          obtain ⟨A1057, c1058, out1059, f1060, f1062, v1064, hS, hV1061, hB1063, hM⟩ := hI
          rw [inflate_reader_symbols.l2] at hM
          refine wp_seq ?_
          refine wp_region_list ?_
          refine st1 hS (bin rfl rfl rfl) rfl fun a w hS => ?_
          refine wpList_nil ?_
          refine then_n ?_
          refine wp_seq ?_
          refine s_cond hS rfl hM (fun hb1066 hM => ?_) (fun hb1066 hM => ?_)
          · refine wp_skip ?_
            refine then_n ?_
            refine wp_seq ?_
            refine wp_block ?_
            obtain ⟨hk1068, hM⟩ := wp_chk hM
            refine draw_begin (vals := [some (ptr b722 0), some (ptr b722 0), some (ptr b722 0), some (ptr b722 1), some (.slice A1057 out1059.length c1058), some (ptr b722 0), some (ptr b722 0), some (ptr b722 1), some (.slice A1057 out1059.length c1058), some (ptr b722 0), some (ptr b722 0), some (ptr b722 1), some (.slice A1057 out1059.length c1058), some (.int .i64 (out1059.length : Int)), some (.int .i64 x1028), some (.int .i64 (w64 ((out1059.length : Int) - x1028))), some (slp A1057 (Int.toNat (w64 ((out1059.length : Int) - x1028)) * 1)), some (.int .u8 (rd out1059 (w64 ((out1059.length : Int) - x1028)))), none, none, none, none, none]) hS mixed rfl ?_
            intro l w ho hcl hA hst
            refine phase' (vals := [some (ptr b722 0), some (ptr b722 0), some (ptr b722 0), some (ptr b722 1), some (.slice A1057 out1059.length c1058), some (ptr b722 0), some (ptr b722 0), some (ptr b722 1), some (.slice A1057 out1059.length c1058), some (ptr b722 0), some (ptr b722 0), some (ptr b722 1), some (.slice A1057 out1059.length c1058), some (.int .i64 (out1059.length : Int)), some (.int .i64 x1028), some (.int .i64 (w64 ((out1059.length : Int) - x1028))), some (slp A1057 (Int.toNat (w64 ((out1059.length : Int) - x1028)) * 1)), some (.int .u8 (rd out1059 (w64 ((out1059.length : Int) - x1028)))), none, none, none, none, none]) 18 [] [0, 1, 2, 3, 4, 5, 6, 7, 8, 9, 10, 11, 12, 13, 14, 15, 16, 17] rfl rfl rfl rfl (by exact ⟨nR rfl rfl rfl rfl rfl (by exact ovE (mv rfl) rfl), nR rfl rfl rfl rfl rfl (by exact ovE (mv rfl) rfl), nR rfl rfl rfl rfl rfl (by exact ovE (nck rfl) rfl), nR rfl rfl rfl rfl rfl (by exact ovE (fad rfl Tryd.runUnderlying51 rfl Tryd.sizeOf27 rfl) rfl), nR rfl rfl rfl rfl rfl (by exact ovE (ldb 4 rfl hB1063 rfl rfl Tryd.isAgg27) rfl), nR rfl rfl rfl rfl rfl (by exact ovE (mv rfl) rfl), nR rfl rfl rfl rfl rfl (by exact ovE (nck rfl) rfl), nR rfl rfl rfl rfl rfl (by exact ovE (fad rfl Tryd.runUnderlying51 rfl Tryd.sizeOf27 rfl) rfl), nR rfl rfl rfl rfl rfl (by exact ovE (ldb 4 rfl hB1063 rfl rfl Tryd.isAgg27) rfl), nR rfl rfl rfl rfl rfl (by exact ovE (mv rfl) rfl), nR rfl rfl rfl rfl rfl (by exact ovE (nck rfl) rfl), nR rfl rfl rfl rfl rfl (by exact ovE (fad rfl Tryd.runUnderlying51 rfl Tryd.sizeOf27 rfl) rfl), nR rfl rfl rfl rfl rfl (by exact ovE (ldb 4 rfl hB1063 rfl rfl Tryd.isAgg27) rfl), nR rfl rfl rfl rfl rfl (by exact ovE (lenV rfl Tryd.runUnderlying27) rfl), nR rfl rfl rfl rfl rfl (by exact ovE (mv rfl) rfl), nR rfl rfl rfl rfl rfl (by exact ovE (bin rfl rfl rfl) rfl), nR rfl rfl rfl rfl rfl (by exact ovE (ixV rfl rfl Tryd.runUnderlying27 Tryd.sizeOf5 (hV1061.rd (i := 6) rfl) (fun _ => rfl) rfl hk1068) rfl), nR rfl rfl rfl rfl rfl (by exact ovE (ldV0 rfl (hV1061.rd (i := 6) rfl) (fun _ => rfl) hk1068 rfl Tryd.isAgg5) rfl), trivial⟩) (fun D l a w ho hcl hav hpre hm hE hk hA hst => ?_) ho hcl (fun j hj => (List.not_mem_nil hj).elim) (fun m hm => (List.not_mem_nil hm).elim) List.not_mem_nil hA hst
            have hS := (Ss.mk hE hst).env2 (e' := [(102, .int .u8 (rd out1059 (w64 ((out1059.length : Int) - x1028))))]) ⟨rfl, trivial⟩
            refine op_of_nth rfl ?_
            refine bsl (g := (ci .u8)) ([(rd out1059 (w64 ((out1059.length : Int) - x1028)))] : List Int) [.int .u8 (rd out1059 (w64 ((out1059.length : Int) - x1028)))] hS Tryd.runUnderlying27 Tryd.sizeOf5 X.el5 rfl rfl rfl (by simp [Value.cells]) rfl rfl rfl rfl rfl fun w A1069 c1070 f1071 hV1072 hS => ?_
            refine wpList_nil (then_n ?_)
            have hcl2 := hcl.cons (k := 18) (nth_get rfl) hpre
            have hmust := must_cons (k := 18) hm (chain (k := 18) hcl (nth_get rfl) hpre [(17, 18), (16, 17), (8, 16), (15, 16), (7, 8), (13, 15), (14, 15), (6, 7), (12, 13), (5, 6), (11, 12), (10, 11), (9, 10)] [] rfl (fun _ h => absurd h List.not_mem_nil))
            replace hst := hS.st
            have hav2 := hav.cons (vals' := [some (ptr b722 0), some (ptr b722 0), some (ptr b722 0), some (ptr b722 1), some (.slice A1057 out1059.length c1058), some (ptr b722 0), some (ptr b722 0), some (ptr b722 1), some (.slice A1057 out1059.length c1058), some (ptr b722 0), some (ptr b722 0), some (ptr b722 1), some (.slice A1057 out1059.length c1058), some (.int .i64 (out1059.length : Int)), some (.int .i64 x1028), some (.int .i64 (w64 ((out1059.length : Int) - x1028))), some (slp A1057 (Int.toNat (w64 ((out1059.length : Int) - x1028)) * 1)), some (.int .u8 (rd out1059 (w64 ((out1059.length : Int) - x1028)))), some (.slice A1069 ([(rd out1059 (w64 ((out1059.length : Int) - x1028)))] : List Int).length c1070), none, none, none, none]) (k := 18) ⟨rfl, rfl, rfl, rfl, rfl, rfl, rfl, rfl, rfl, rfl, rfl, rfl, rfl, rfl, rfl, rfl, rfl, rfl, trivial⟩ rfl
            replace hA := (hA.next hav (subV.get (l' := [some (ptr b722 0), some (ptr b722 0), some (ptr b722 0), some (ptr b722 1), some (.slice A1057 out1059.length c1058), some (ptr b722 0), some (ptr b722 0), some (ptr b722 1), some (.slice A1057 out1059.length c1058), some (ptr b722 0), some (ptr b722 0), some (ptr b722 1), some (.slice A1057 out1059.length c1058), some (.int .i64 (out1059.length : Int)), some (.int .i64 x1028), some (.int .i64 (w64 ((out1059.length : Int) - x1028))), some (slp A1057 (Int.toNat (w64 ((out1059.length : Int) - x1028)) * 1)), some (.int .u8 (rd out1059 (w64 ((out1059.length : Int) - x1028)))), some (.slice A1069 ([(rd out1059 (w64 ((out1059.length : Int) - x1028)))] : List Int).length c1070), none, none, none, none]) ⟨rfl, rfl, rfl, rfl, rfl, rfl, rfl, rfl, rfl, rfl, rfl, rfl, rfl, rfl, rfl, rfl, rfl, rfl, trivial⟩)).step rfl (nth_get rfl) hk rfl rfl rfl
            clear hm hav
            replace hcl := hcl2
            refine phase' (vals := [some (ptr b722 0), some (ptr b722 0), some (ptr b722 0), some (ptr b722 1), some (.slice A1057 out1059.length c1058), some (ptr b722 0), some (ptr b722 0), some (ptr b722 1), some (.slice A1057 out1059.length c1058), some (ptr b722 0), some (ptr b722 0), some (ptr b722 1), some (.slice A1057 out1059.length c1058), some (.int .i64 (out1059.length : Int)), some (.int .i64 x1028), some (.int .i64 (w64 ((out1059.length : Int) - x1028))), some (slp A1057 (Int.toNat (w64 ((out1059.length : Int) - x1028)) * 1)), some (.int .u8 (rd out1059 (w64 ((out1059.length : Int) - x1028)))), some (.slice A1069 ([(rd out1059 (w64 ((out1059.length : Int) - x1028)))] : List Int).length c1070), none, none, none, none]) 19 [18, 17, 16, 8, 15, 7, 13, 14, 6, 12, 5, 11, 10, 9] [0, 1, 2, 3, 4] rfl rfl rfl rfl (by exact ⟨nR rfl rfl rfl rfl rfl (by exact ovE (mv rfl) rfl), nR rfl rfl rfl rfl rfl (by exact ovE (mv rfl) rfl), nR rfl rfl rfl rfl rfl (by exact ovE (nck rfl) rfl), nR rfl rfl rfl rfl rfl (by exact ovE (fad rfl Tryd.runUnderlying51 rfl Tryd.sizeOf27 rfl) rfl), nR rfl rfl rfl rfl rfl (by exact ovE (ldb 5 rfl hB1063 rfl rfl Tryd.isAgg27) rfl), trivial⟩) (fun D l a w ho hcl hav hpre hm hE hk hA hst => ?_) ho hcl hav2 hmust (hav2.notin rfl) hA hst
            have hS := (Ss.mk hE hst).env2 (e' := [(89, .slice A1057 out1059.length c1058), (103, .slice A1069 ([(rd out1059 (w64 ((out1059.length : Int) - x1028)))] : List Int).length c1070)]) ⟨rfl, rfl, trivial⟩
            refine op_of_nth rfl ?_
            obtain ⟨hk1073, hM⟩ := wp_chk hM
            refine apV (ys := ([(rd out1059 (w64 ((out1059.length : Int) - x1028)))] : List Int)) 7 hS rfl rfl hV1061 rfl (hV1072.rd (i := 0) rfl) Tryd.runUnderlying27 Tryd.runUnderlying27 X.el5 (fun _ => rfl) rfl one_t5 hk1073 rfl fun zs1078 w A1074 c1075 f1076 hz hV1077 hS => ?_
            have hM := lt_to hz hM; clear hz
            refine wpList_nil (then_n ?_)
            have hcl2 := hcl.cons (k := 19) (nth_get rfl) hpre
            have hmust := must_cons (k := 19) hm (chain (k := 19) hcl (nth_get rfl) hpre [(4, 19), (18, 19), (3, 4), (17, 18), (2, 3), (16, 17), (1, 2), (8, 16), (15, 16), (7, 8), (13, 15), (14, 15), (6, 7), (12, 13), (5, 6), (11, 12), (10, 11), (9, 10)] [] rfl (fun _ h => absurd h List.not_mem_nil))
            replace hst := hS.st
            have hav2 := hav.cons (vals' := [some (ptr b722 0), some (ptr b722 0), some (ptr b722 0), some (ptr b722 1), some (.slice A1057 out1059.length c1058), some (ptr b722 0), some (ptr b722 0), some (ptr b722 1), some (.slice A1057 out1059.length c1058), some (ptr b722 0), some (ptr b722 0), some (ptr b722 1), some (.slice A1057 out1059.length c1058), some (.int .i64 (out1059.length : Int)), some (.int .i64 x1028), some (.int .i64 (w64 ((out1059.length : Int) - x1028))), some (slp A1057 (Int.toNat (w64 ((out1059.length : Int) - x1028)) * 1)), some (.int .u8 (rd out1059 (w64 ((out1059.length : Int) - x1028)))), some (.slice A1069 ([(rd out1059 (w64 ((out1059.length : Int) - x1028)))] : List Int).length c1070), some (.slice A1074 zs1078.length c1075), some (ptr b722 0), some (ptr b722 1), none]) (k := 19) ⟨rfl, rfl, rfl, rfl, rfl, rfl, rfl, rfl, rfl, rfl, rfl, rfl, rfl, rfl, rfl, rfl, rfl, rfl, rfl, trivial⟩ rfl
            replace hA := (hA.next hav (subV.get (l' := [some (ptr b722 0), some (ptr b722 0), some (ptr b722 0), some (ptr b722 1), some (.slice A1057 out1059.length c1058), some (ptr b722 0), some (ptr b722 0), some (ptr b722 1), some (.slice A1057 out1059.length c1058), some (ptr b722 0), some (ptr b722 0), some (ptr b722 1), some (.slice A1057 out1059.length c1058), some (.int .i64 (out1059.length : Int)), some (.int .i64 x1028), some (.int .i64 (w64 ((out1059.length : Int) - x1028))), some (slp A1057 (Int.toNat (w64 ((out1059.length : Int) - x1028)) * 1)), some (.int .u8 (rd out1059 (w64 ((out1059.length : Int) - x1028)))), some (.slice A1069 ([(rd out1059 (w64 ((out1059.length : Int) - x1028)))] : List Int).length c1070), some (.slice A1074 zs1078.length c1075), some (ptr b722 0), some (ptr b722 1), none]) ⟨rfl, rfl, rfl, rfl, rfl, rfl, rfl, rfl, rfl, rfl, rfl, rfl, rfl, rfl, rfl, rfl, rfl, rfl, rfl, trivial⟩)).step rfl (nth_get rfl) hk rfl rfl rfl
            clear hm hav
            replace hcl := hcl2
            refine phase' (vals := [some (ptr b722 0), some (ptr b722 0), some (ptr b722 0), some (ptr b722 1), some (.slice A1057 out1059.length c1058), some (ptr b722 0), some (ptr b722 0), some (ptr b722 1), some (.slice A1057 out1059.length c1058), some (ptr b722 0), some (ptr b722 0), some (ptr b722 1), some (.slice A1057 out1059.length c1058), some (.int .i64 (out1059.length : Int)), some (.int .i64 x1028), some (.int .i64 (w64 ((out1059.length : Int) - x1028))), some (slp A1057 (Int.toNat (w64 ((out1059.length : Int) - x1028)) * 1)), some (.int .u8 (rd out1059 (w64 ((out1059.length : Int) - x1028)))), some (.slice A1069 ([(rd out1059 (w64 ((out1059.length : Int) - x1028)))] : List Int).length c1070), some (.slice A1074 zs1078.length c1075), some (ptr b722 0), some (ptr b722 1), none]) 22 [19, 4, 18, 3, 17, 2, 16, 1, 8, 15, 7, 13, 14, 6, 12, 5, 11, 10, 9, 18, 17, 16, 8, 15, 7, 13, 14, 6, 12, 5, 11, 10, 9] [0, 20, 21] rfl rfl rfl rfl (by exact ⟨nR rfl rfl rfl rfl rfl (by exact ovE (mv rfl) rfl), nR rfl rfl rfl rfl rfl (by exact ovE (nck rfl) rfl), nR rfl rfl rfl rfl rfl (by exact ovE (fad rfl Tryd.runUnderlying51 rfl Tryd.sizeOf27 rfl) rfl), trivial⟩) (fun D l a w ho hcl hav hpre hm hE hk hA hst => ?_) ho hcl hav2 hmust (hav2.notin rfl) hA hst
            have hS := (Ss.mk hE hst).env2 (e' := [(104, .slice A1074 zs1078.length c1075), (106, ptr b722 1)]) ⟨rfl, rfl, trivial⟩
            refine op_of_nth rfl ?_
            refine sto 5 ([ptr b725 0, .slice A1074 zs1078.length c1075, .int .i64 r721.limit_]) hS rfl rfl hB1063 rfl rfl rfl rfl Tryd.sizeOf27 fun w f1079 hB1080 hS => ?_
            refine wpList_nil (then_n ?_)
            have hcl2 := hcl.cons (k := 22) (nth_get rfl) hpre
            have hmust := must_cons (k := 22) hm (chain (k := 22) hcl (nth_get rfl) hpre [(0, 22), (1, 22), (2, 22), (3, 22), (4, 22), (5, 22), (6, 22), (7, 22), (8, 22), (9, 22), (10, 22), (11, 22), (12, 22), (13, 22), (14, 22), (15, 22), (16, 22), (17, 22), (18, 22), (19, 22), (21, 22), (20, 21)] [] rfl (fun _ h => absurd h List.not_mem_nil))
            replace hst := hS.st
            have hav2 := hav.cons (vals' := [some (ptr b722 0), some (ptr b722 0), some (ptr b722 0), some (ptr b722 1), some (.slice A1057 out1059.length c1058), some (ptr b722 0), some (ptr b722 0), some (ptr b722 1), some (.slice A1057 out1059.length c1058), some (ptr b722 0), some (ptr b722 0), some (ptr b722 1), some (.slice A1057 out1059.length c1058), some (.int .i64 (out1059.length : Int)), some (.int .i64 x1028), some (.int .i64 (w64 ((out1059.length : Int) - x1028))), some (slp A1057 (Int.toNat (w64 ((out1059.length : Int) - x1028)) * 1)), some (.int .u8 (rd out1059 (w64 ((out1059.length : Int) - x1028)))), some (.slice A1069 ([(rd out1059 (w64 ((out1059.length : Int) - x1028)))] : List Int).length c1070), some (.slice A1074 zs1078.length c1075), some (ptr b722 0), some (ptr b722 1), some undef]) (k := 22) ⟨rfl, rfl, rfl, rfl, rfl, rfl, rfl, rfl, rfl, rfl, rfl, rfl, rfl, rfl, rfl, rfl, rfl, rfl, rfl, rfl, rfl, rfl, trivial⟩ rfl
            replace hA := (hA.next hav (subV.get (l' := [some (ptr b722 0), some (ptr b722 0), some (ptr b722 0), some (ptr b722 1), some (.slice A1057 out1059.length c1058), some (ptr b722 0), some (ptr b722 0), some (ptr b722 1), some (.slice A1057 out1059.length c1058), some (ptr b722 0), some (ptr b722 0), some (ptr b722 1), some (.slice A1057 out1059.length c1058), some (.int .i64 (out1059.length : Int)), some (.int .i64 x1028), some (.int .i64 (w64 ((out1059.length : Int) - x1028))), some (slp A1057 (Int.toNat (w64 ((out1059.length : Int) - x1028)) * 1)), some (.int .u8 (rd out1059 (w64 ((out1059.length : Int) - x1028)))), some (.slice A1069 ([(rd out1059 (w64 ((out1059.length : Int) - x1028)))] : List Int).length c1070), some (.slice A1074 zs1078.length c1075), some (ptr b722 0), some (ptr b722 1), some undef]) ⟨rfl, rfl, rfl, rfl, rfl, rfl, rfl, rfl, rfl, rfl, rfl, rfl, rfl, rfl, rfl, rfl, rfl, rfl, rfl, rfl, rfl, rfl, trivial⟩)).stepN (i := 22) (nth_get rfl) rfl
            clear hm hav
            replace hcl := hcl2
            refine phaseE (vals := [some (ptr b722 0), some (ptr b722 0), some (ptr b722 0), some (ptr b722 1), some (.slice A1057 out1059.length c1058), some (ptr b722 0), some (ptr b722 0), some (ptr b722 1), some (.slice A1057 out1059.length c1058), some (ptr b722 0), some (ptr b722 0), some (ptr b722 1), some (.slice A1057 out1059.length c1058), some (.int .i64 (out1059.length : Int)), some (.int .i64 x1028), some (.int .i64 (w64 ((out1059.length : Int) - x1028))), some (slp A1057 (Int.toNat (w64 ((out1059.length : Int) - x1028)) * 1)), some (.int .u8 (rd out1059 (w64 ((out1059.length : Int) - x1028)))), some (.slice A1069 ([(rd out1059 (w64 ((out1059.length : Int) - x1028)))] : List Int).length c1070), some (.slice A1074 zs1078.length c1075), some (ptr b722 0), some (ptr b722 1), some undef]) [22, 0, 1, 2, 3, 4, 5, 6, 7, 8, 9, 10, 11, 12, 13, 14, 15, 16, 17, 18, 19, 21, 20, 19, 4, 18, 3, 17, 2, 16, 1, 8, 15, 7, 13, 14, 6, 12, 5, 11, 10, 9, 18, 17, 16, 8, 15, 7, 13, 14, 6, 12, 5, 11, 10, 9] [] rfl rfl rfl trivial (fun a w hS => ?_) ho hcl hmust hA hst
            replace hS := hS.env2 (e' := [(0, ptr b722 0), (1, ptr b733 0), (2, ptr b742 0), (9, .int .i64 x1028), (82, .int .i64 x1019), (83, .int .i64 v1064)]) ⟨rfl, rfl, rfl, rfl, rfl, rfl, trivial⟩
            refine blk_n (then_n ?_)
            refine wp_region_list ?_
            refine st1 hS (bin rfl rfl rfl) rfl fun a w hS => ?_
            refine st1 hS (mv rfl) rfl fun a w hS => ?_
            refine wpList_nil ?_
            refine then_n ?_
            exact hJ1081 _ _ ⟨A1074, c1075, zs1078, f1076, f1079, (w64 (v1064 + (1 : Int))), hS.to [1, 2, 3, 4, 5, 6, 7] (by kernel_rfl) ⟨rfl, rfl, rfl, rfl, rfl, rfl, trivial⟩, hV1077, hB1080, hM⟩
          · refine wp_exit ?_
            refine then_ex (then_ex (blk_same (blk_n (then_n ?_))))
            exact hJ1082 _ _ ⟨at_1029, f1030, A1057, c1058, out1059, f1060, f1062, hS.to [0, 1, 2, 3, 4, 5, 6] (by kernel_rfl) ⟨rfl, rfl, rfl, trivial⟩, h1031, hV1061, hB1063, hM⟩

theorem inflate_reader_row_c {H : Imm} {F : List Frag} {w : World} {R : Ending → World → Prop} {kr : ((List Int) × Int) → Prop} {kp : Value → Prop} (hG : Gl H) (K : Nat) (r1203 : T_inflate_reader) (n_1214 : Int) (t1215 : T_huff_Table) (b1204 : Nat) (f1205 : Frag) (b1207 : Nat) (f1208 : Frag) (A1210 : Option Addr) (c1211 : Nat) (f1212 : Frag) (b1216 : Nat) (f1217 : Frag) (A1220 : Option Addr) (c1221 : Nat) (f1222 : Frag) (hB1206 : Blk f1205 b1204 ([ptr b1207 0, .slice A1210 r1203.out_.length c1211, .int .i64 r1203.limit_]) 51) (hB1209 : Blk f1208 b1207 ([.int .i64 r1203.Reader_.place_.at_, str r1203.Reader_.text_]) 65) (hV1213 : Vec 5 (ci .u8) 1 A1210 r1203.out_ c1211 f1212) (hB1218 : Blk f1217 b1216 ((t1215.counts_.flatMap (ci .i64)) ++ [.slice A1220 t1215.symbols_.length c1221]) 116) (hl1219 : t1215.counts_.length = 16) (hV1223 : Vec 3 (ci .i64) 1 A1220 t1215.symbols_ c1221 f1222)
    (hS : St w H [f1205, f1208, f1212, f1217, f1222] F) (hm : (inflate_reader_row.m K r1203 n_1214 t1215).wp kr kp)
    (hret : ∀ (A1397 : Option Addr) (c1398 : Nat) (x1399 : (List Int)) (f1400 : Frag) (at_1402 : Int) (f1403 : Frag) (w : World), kr (x1399, at_1402) → (Vec 3 (ci .i64) 1 A1397 x1399 c1398 f1400) → (Blk f1403 b1207 ([.int .i64 at_1402, str r1203.Reader_.text_]) 65) → St w H [f1400, f1217, f1222, f1205, f1403, f1212] F → R (.returned (.slice A1397 x1399.length c1398)) w)
    (hpan : ∀ v w, kp v → St w H [] F → R (.panicked [⟨v, false, false⟩]) w) :
    Calls Tryd.prog 45 ⟨[ptr b1204 0, .int .i64 n_1214, ptr b1216 0]⟩ w R := by
  refine enter Tryd.func45 rfl Tryd.ntmps45 rfl hS fun a w hS => ?_
  have hM := hm; clear hm
  rw [inflate_reader_row.m] at hM
  refine wp_seq ?_
  refine wp_region_list ?_
  refine st1 hS (asg rfl) rfl fun a w hS => ?_
  obtain ⟨f1224, hV1225, hS⟩ := hS.nilV 3 (ci .i64) 1
  refine wpList_nil ?_
  refine then_n ?_
  refine wp_seq ?_
  refine wp_region_list ?_
  refine st1 hS (asg rfl) rfl fun a w hS => ?_
  obtain ⟨f1226, hV1227, hS⟩ := hS.nilV 3 (ci .i64) 1
  refine wpList_nil ?_
  refine then_n ?_
  refine wp_seq ?_
  refine wp_block ?_
  refine s_loopJ (fun k1320 a w => ∃ (at_1312 : Int) (f1313 : Frag) (A1315 : Option Addr) (c1316 : Nat) (l_1317 : (List Int)) (f1318 : Frag), Ss 63 [] [(0, ptr b1204 0), (1, .int .i64 n_1214), (2, ptr b1216 0), (7, .slice A1315 l_1317.length c1316)] H [f1217, f1222, f1205, f1313, f1212, f1318] F a w ∧ (Blk f1313 b1207 ([.int .i64 at_1312, str r1203.Reader_.text_]) 65) ∧ (Vec 3 (ci .i64) 1 A1315 l_1317 c1316 f1318) ∧ (inflate_reader_row.l1 K r1203 n_1214 t1215 k1320 at_1312 l_1317).wp kr kp) K ?_ ?_ ?_
  · exact ⟨r1203.Reader_.place_.at_, f1208, none, 0, ([] : List Int), f1226, hS.to [5, 6, 2, 3, 4, 0] (by kernel_rfl) ⟨rfl, rfl, rfl, rfl, trivial⟩, hB1209, hV1227, hM⟩
  · intro a w hI; obtain ⟨_, _, _, _, _, _, _, _, _, hM⟩ := hI; exact hM
  · intro k1320 a w hI J1396 hJ1396
    obtain ⟨at_1312, f1313, A1315, c1316, l_1317, f1318, hS, hB1314, hV1319, hM⟩ := hI
    rw [inflate_reader_row.l1] at hM
    refine wp_seq ?_
    refine wp_seq ?_
    refine wp_region_list ?_
    refine st1 hS (mv rfl) rfl fun a w hS => ?_
    refine st1 hS (lenV rfl Tryd.runUnderlying74) rfl fun a w hS => ?_
    refine st1 hS (mv rfl) rfl fun a w hS => ?_
    refine st1 hS (bin rfl rfl rfl) rfl fun a w hS => ?_
    refine wpList_nil ?_
    refine then_n ?_
    refine s_cond hS rfl hM (fun hb1321 hM => ?_) (fun hb1321 hM => ?_)
    · refine wp_skip ?_
      refine then_n ?_
      refine wp_block ?_
      refine wp_seq ?_
      refine wp_region_list ?_
      refine st1 hS (mv rfl) rfl fun a w hS => ?_
      refine st1 hS (mv rfl) rfl fun a w hS => ?_
      refine s_call hS rfl Tryd.call42 (inflate_reader_symbol_c hG K (T_inflate_reader.mk (T_bits_Reader.mk (T_bits_place.mk at_1312) r1203.Reader_.text_) r1203.out_ r1203.limit_) t1215 b1204 f1205 b1207 f1313 A1210 c1211 f1212 b1216 f1217 A1220 c1221 f1222 hB1206 hB1314 hV1213 hB1218 hl1219 hV1223 (hS.st.part 5 [2, 3, 4, 0, 1, 5] (by kernel_rfl)) (wp_bind hM) (fun x1322 at_1323 f1324 w hM h1325 hst => s_back hS.ev hst.appF rfl fun hS => ?_) (fun v w hk hst => s_pan (then_pan (blk_pan (then_pan (blk_pan (then_pan (⟨hS.ev.defs, hpan _ _ hk hst.appF.frame⟩))))))))
      replace hS : Ss _ _ _ H [f1217, f1222, f1205, f1324, f1212, f1318] F _ _ := hS
      refine st1 hS (asg rfl) rfl fun a w hS => ?_
      refine wpList_nil ?_
      refine then_n ?_
      refine wp_seq ?_
      refine wp_region_list ?_
      refine st1 hS (asg rfl) rfl fun a w hS => ?_
      refine st1 hS (asg rfl) rfl fun a w hS => ?_
      refine wpList_nil ?_
      refine then_n ?_
      refine seq_joinJ (fun a w => ∃ (at_1352 : Int) (f1353 : Frag) (value1355 : Int) (times1356 : Int), Ss 63 [] [(0, ptr b1204 0), (1, .int .i64 n_1214), (2, ptr b1216 0), (7, .slice A1315 l_1317.length c1316), (9, .int .i64 value1355), (10, .int .i64 times1356)] H [f1217, f1222, f1205, f1353, f1212, f1318] F a w ∧ (Blk f1353 b1207 ([.int .i64 at_1352, str r1203.Reader_.text_]) 65) ∧ (inflate_reader_row.j2 K (inflate_reader_row.l1 K r1203 n_1214 t1215 k1320) n_1214 l_1317 at_1352 value1355 times1356).wp kr kp) (fun J1357 hJ1357 => ?_) ?_
      · refine wp_block ?_
        refine wp_seq ?_
        refine wp_region_list ?_
        refine st1 hS (mv rfl) rfl fun a w hS => ?_
        refine st1 hS (bin rfl rfl rfl) rfl fun a w hS => ?_
        refine st1x (v := Value.bool) hS (asg rfl) rfl fun v1326 a w hz hS => ?_
        have hM := lt_to hz hM; clear hz
        refine wpList_nil ?_
        refine then_n ?_
        refine s_cond hS rfl hM (fun hb1327 hM => ?_) (fun hb1327 hM => ?_)
        · refine wp_region_list ?_
          refine st1 hS (mv rfl) rfl fun a w hS => ?_
          refine st1 hS (asg rfl) rfl fun a w hS => ?_
          refine wpList_nil ?_
          refine blk_n (then_n ?_)
          exact hJ1357 _ _ ⟨at_1323, f1324, x1322, (1 : Int), hS.to [0, 1, 2, 3, 4, 5] (by kernel_rfl) ⟨rfl, rfl, rfl, rfl, rfl, rfl, trivial⟩, h1325, hM⟩
        · refine wp_seq ?_
          refine wp_region_list ?_
          refine st1 hS (mv rfl) rfl fun a w hS => ?_
          refine st1 hS (bin rfl rfl rfl) rfl fun a w hS => ?_
          refine st1x (v := Value.bool) hS (asg rfl) rfl fun v1328 a w hz hS => ?_
          have hM := lt_to hz hM; clear hz
          refine wpList_nil ?_
          refine then_n ?_
          refine s_cond hS rfl hM (fun hb1329 hM => ?_) (fun hb1329 hM => ?_)
          · refine wp_seq ?_
            refine wp_region_list ?_
            refine st1 hS (mv rfl) rfl fun a w hS => ?_
            refine st1 hS (lenV rfl Tryd.runUnderlying74) rfl fun a w hS => ?_
            refine st1 hS (bin rfl rfl rfl) rfl fun a w hS => ?_
            refine s_call hS rfl Tryd.call32 (inflate_refuse_c hG K ((l_1317.length : Int) == (0 : Int)) (3 : Int) (hS.st.part 0 [0, 1, 2, 3, 4, 5] (by kernel_rfl)) (wp_bind hM) (fun  w hM  hst => s_back hS.ev hst.appF rfl fun hS => ?_) (fun v w hk hst => s_pan (then_pan (blk_pan (then_pan (blk_pan (then_pan (blk_pan (then_pan (⟨hS.ev.defs, hpan _ _ hk hst.appF.frame⟩))))))))))
            replace hS : Ss _ _ _ H [f1217, f1222, f1205, f1324, f1212, f1318] F _ _ := hS
            refine wpList_nil ?_
            refine then_n ?_
            obtain ⟨hk1331, hM⟩ := wp_chk hM
            refine draw_begin (vals := [some (.slice A1315 l_1317.length c1316), some (.slice A1315 l_1317.length c1316), some (.int .i64 (l_1317.length : Int)), some (.int .i64 (w64 ((l_1317.length : Int) - (1 : Int)))), some (slp A1315 (Int.toNat (w64 ((l_1317.length : Int) - (1 : Int))) * 1)), some (.int .i64 (rd l_1317 (w64 ((l_1317.length : Int) - (1 : Int))))), some (ptr b1204 0), none, none, none, none]) hS mixed rfl ?_
            intro l w ho hcl hA hst
            refine phase' (vals := [some (.slice A1315 l_1317.length c1316), some (.slice A1315 l_1317.length c1316), some (.int .i64 (l_1317.length : Int)), some (.int .i64 (w64 ((l_1317.length : Int) - (1 : Int)))), some (slp A1315 (Int.toNat (w64 ((l_1317.length : Int) - (1 : Int))) * 1)), some (.int .i64 (rd l_1317 (w64 ((l_1317.length : Int) - (1 : Int))))), some (ptr b1204 0), none, none, none, none]) 7 [] [0, 1, 2, 3, 4, 5, 6] rfl rfl rfl rfl (by exact ⟨nR rfl rfl rfl rfl rfl (by exact ovE (mv rfl) rfl), nR rfl rfl rfl rfl rfl (by exact ovE (mv rfl) rfl), nR rfl rfl rfl rfl rfl (by exact ovE (lenV rfl Tryd.runUnderlying74) rfl), nR rfl rfl rfl rfl rfl (by exact ovE (bin rfl rfl rfl) rfl), nR rfl rfl rfl rfl rfl (by exact ovE (ixV rfl rfl Tryd.runUnderlying74 Tryd.sizeOf3 (hV1319.rd (i := 5) rfl) (fun _ => rfl) rfl hk1331) rfl), nR rfl rfl rfl rfl rfl (by exact ovE (ldV0 rfl (hV1319.rd (i := 5) rfl) (fun _ => rfl) hk1331 rfl Tryd.isAgg3) rfl), nR rfl rfl rfl rfl rfl (by exact ovE (mv rfl) rfl), trivial⟩) (fun D l a w ho hcl hav hpre hm hE hk hA hst => ?_) ho hcl (fun j hj => (List.not_mem_nil hj).elim) (fun m hm => (List.not_mem_nil hm).elim) List.not_mem_nil hA hst
            have hS := (Ss.mk hE hst).env2 (e' := [(38, ptr b1204 0)]) ⟨rfl, trivial⟩
            refine op_of_nth rfl ?_
            refine s_call hS rfl Tryd.call27 (inflate_reader_number_c hG K (T_inflate_reader.mk (T_bits_Reader.mk (T_bits_place.mk at_1323) r1203.Reader_.text_) r1203.out_ r1203.limit_) (2 : Int) b1204 f1205 b1207 f1324 A1210 c1211 f1212 hB1206 h1325 hV1213 (hS.st.part 3 [2, 3, 4, 0, 1, 5] (by kernel_rfl)) (wp_bind hM) (fun x1332 at_1333 f1334 w hM h1335 hst => s_back hS.ev hst.appF rfl fun hS => ?_) (fun v w hk hst => s_pan (then_pan (blk_pan (then_pan (blk_pan (then_pan (blk_pan (then_pan (⟨hS.ev.defs, hpan _ _ hk hst.appF.frame⟩))))))))))
            replace hS : Ss _ _ _ H [f1205, f1334, f1212, f1217, f1222, f1318] F _ _ := hS
            refine wpList_nil (then_n ?_)
            have hcl2 := hcl.cons (k := 7) (nth_get rfl) hpre
            have hmust := must_cons (k := 7) hm (chain (k := 7) hcl (nth_get rfl) hpre [(6, 7)] [] rfl (fun _ h => absurd h List.not_mem_nil))
            replace hst := hS.st
            obtain ⟨value1336, hz1337⟩ : ∃ x, x = (rd l_1317 (w64 ((l_1317.length : Int) - (1 : Int)))) := ⟨_, rfl⟩
            replace hM := lt_to hz1337 hM
            obtain ⟨times1338, hz1339⟩ : ∃ x, x = (w64 ((3 : Int) + x1332)) := ⟨_, rfl⟩
            replace hM := lt_to hz1339 hM
            have hav2 := hav.cons (vals' := [some (.slice A1315 l_1317.length c1316), some (.slice A1315 l_1317.length c1316), some (.int .i64 (l_1317.length : Int)), some (.int .i64 (w64 ((l_1317.length : Int) - (1 : Int)))), some (slp A1315 (Int.toNat (w64 ((l_1317.length : Int) - (1 : Int))) * 1)), some (.int .i64 (rd l_1317 (w64 ((l_1317.length : Int) - (1 : Int))))), some (ptr b1204 0), some (.int .i64 x1332), some (.int .i64 (w64 ((3 : Int) + x1332))), some (.int .i64 value1336), some (.int .i64 times1338)]) (k := 7) ⟨rfl, rfl, rfl, rfl, rfl, rfl, rfl, trivial⟩ rfl
            replace hA := (hA.next hav (subV.get (l' := [some (.slice A1315 l_1317.length c1316), some (.slice A1315 l_1317.length c1316), some (.int .i64 (l_1317.length : Int)), some (.int .i64 (w64 ((l_1317.length : Int) - (1 : Int)))), some (slp A1315 (Int.toNat (w64 ((l_1317.length : Int) - (1 : Int))) * 1)), some (.int .i64 (rd l_1317 (w64 ((l_1317.length : Int) - (1 : Int))))), some (ptr b1204 0), some (.int .i64 x1332), some (.int .i64 (w64 ((3 : Int) + x1332))), some (.int .i64 value1336), some (.int .i64 times1338)]) ⟨rfl, rfl, rfl, rfl, rfl, rfl, rfl, trivial⟩)).step rfl (nth_get rfl) hk rfl rfl rfl
            clear hm hav
            replace hcl := hcl2
            refine phaseE (vals := [some (.slice A1315 l_1317.length c1316), some (.slice A1315 l_1317.length c1316), some (.int .i64 (l_1317.length : Int)), some (.int .i64 (w64 ((l_1317.length : Int) - (1 : Int)))), some (slp A1315 (Int.toNat (w64 ((l_1317.length : Int) - (1 : Int))) * 1)), some (.int .i64 (rd l_1317 (w64 ((l_1317.length : Int) - (1 : Int))))), some (ptr b1204 0), some (.int .i64 x1332), some (.int .i64 (w64 ((3 : Int) + x1332))), some (.int .i64 value1336), some (.int .i64 times1338)]) [7, 6] [0, 1, 2, 3, 4, 5, 8, 9, 10] rfl rfl rfl (by exact ⟨nR rfl rfl rfl rfl rfl (by exact ovE (mv rfl) rfl), nR rfl rfl rfl rfl rfl (by exact ovE (mv rfl) rfl), nR rfl rfl rfl rfl rfl (by exact ovE (lenV rfl Tryd.runUnderlying74) rfl), nR rfl rfl rfl rfl rfl (by exact ovE (bin rfl rfl rfl) rfl), nR rfl rfl rfl rfl rfl (by exact ovE (ixV rfl rfl Tryd.runUnderlying74 Tryd.sizeOf3 (hV1319.rd (i := 5) rfl) (fun _ => rfl) rfl hk1331) rfl), nR rfl rfl rfl rfl rfl (by exact ovE (ldV0 rfl (hV1319.rd (i := 5) rfl) (fun _ => rfl) hk1331 rfl Tryd.isAgg3) rfl), nR rfl rfl rfl rfl rfl (by exact ovE (bin rfl rfl rfl) rfl), nR rfl rfl rfl rfl rfl (by exact ovE (asg rfl) (congrArg (Value.int .i64) hz1337.symm)), nR rfl rfl rfl rfl rfl (by exact ovE (asg rfl) (congrArg (Value.int .i64) hz1339.symm)), trivial⟩) (fun a w hS => ?_) ho hcl hmust hA hst
            replace hS := hS.env2 (e' := [(0, ptr b1204 0), (1, .int .i64 n_1214), (2, ptr b1216 0), (7, .slice A1315 l_1317.length c1316), (9, .int .i64 value1336), (10, .int .i64 times1338)]) ⟨rfl, rfl, rfl, rfl, rfl, rfl, trivial⟩
            refine blk_n (then_n ?_)
            exact hJ1357 _ _ ⟨at_1333, f1334, value1336, times1338, hS.to [3, 4, 0, 1, 2, 5] (by kernel_rfl) ⟨rfl, rfl, rfl, rfl, rfl, rfl, trivial⟩, h1335, hM⟩
          · refine wp_seq ?_
            refine wp_region_list ?_
            refine st1 hS (mv rfl) rfl fun a w hS => ?_
            refine st1 hS (bin rfl rfl rfl) rfl fun a w hS => ?_
            refine st1x (v := Value.bool) hS (asg rfl) rfl fun v1340 a w hz hS => ?_
            have hM := lt_to hz hM; clear hz
            refine wpList_nil ?_
            refine then_n ?_
            refine s_cond hS rfl hM (fun hb1341 hM => ?_) (fun hb1341 hM => ?_)
            · refine wp_region_list ?_
              refine st1 hS (mv rfl) rfl fun a w hS => ?_
              refine s_call hS rfl Tryd.call27 (inflate_reader_number_c hG K (T_inflate_reader.mk (T_bits_Reader.mk (T_bits_place.mk at_1323) r1203.Reader_.text_) r1203.out_ r1203.limit_) (3 : Int) b1204 f1205 b1207 f1324 A1210 c1211 f1212 hB1206 h1325 hV1213 (hS.st.part 3 [2, 3, 4, 0, 1, 5] (by kernel_rfl)) (wp_bind hM) (fun x1342 at_1343 f1344 w hM h1345 hst => s_back hS.ev hst.appF rfl fun hS => ?_) (fun v w hk hst => s_pan (blk_pan (then_pan (blk_pan (then_pan (blk_pan (then_pan (⟨hS.ev.defs, hpan _ _ hk hst.appF.frame⟩)))))))))
              replace hS : Ss _ _ _ H [f1205, f1344, f1212, f1217, f1222, f1318] F _ _ := hS
              refine st1 hS (bin rfl rfl rfl) rfl fun a w hS => ?_
              refine st1x (v := Value.int .i64) hS (asg rfl) rfl fun times1346 a w hz hS => ?_
              have hM := lt_to hz hM; clear hz
              refine wpList_nil ?_
              refine blk_n (then_n ?_)
              exact hJ1357 _ _ ⟨at_1343, f1344, (0 : Int), times1346, hS.to [3, 4, 0, 1, 2, 5] (by kernel_rfl) ⟨rfl, rfl, rfl, rfl, rfl, rfl, trivial⟩, h1345, hM⟩
            · refine wp_region_list ?_
              refine st1 hS (mv rfl) rfl fun a w hS => ?_
              refine s_call hS rfl Tryd.call27 (inflate_reader_number_c hG K (T_inflate_reader.mk (T_bits_Reader.mk (T_bits_place.mk at_1323) r1203.Reader_.text_) r1203.out_ r1203.limit_) (7 : Int) b1204 f1205 b1207 f1324 A1210 c1211 f1212 hB1206 h1325 hV1213 (hS.st.part 3 [2, 3, 4, 0, 1, 5] (by kernel_rfl)) (wp_bind hM) (fun x1347 at_1348 f1349 w hM h1350 hst => s_back hS.ev hst.appF rfl fun hS => ?_) (fun v w hk hst => s_pan (blk_pan (then_pan (blk_pan (then_pan (blk_pan (then_pan (⟨hS.ev.defs, hpan _ _ hk hst.appF.frame⟩)))))))))
              replace hS : Ss _ _ _ H [f1205, f1349, f1212, f1217, f1222, f1318] F _ _ := hS
              refine st1 hS (bin rfl rfl rfl) rfl fun a w hS => ?_
              refine st1x (v := Value.int .i64) hS (asg rfl) rfl fun times1351 a w hz hS => ?_
              have hM := lt_to hz hM; clear hz
              refine wpList_nil ?_
              refine blk_n (then_n ?_)
              exact hJ1357 _ _ ⟨at_1348, f1349, (0 : Int), times1351, hS.to [3, 4, 0, 1, 2, 5] (by kernel_rfl) ⟨rfl, rfl, rfl, rfl, rfl, rfl, trivial⟩, h1350, hM⟩
      · intro a w hI
        obtain ⟨at_1352, f1353, value1355, times1356, hS, hB1354, hM⟩ := hI
        rw [inflate_reader_row.j2] at hM
        refine wp_seq ?_
        refine wp_region_list ?_
        refine st1 hS (mv rfl) rfl fun a w hS => ?_
        refine st1 hS (mv rfl) rfl fun a w hS => ?_
        refine st1 hS (mv rfl) rfl fun a w hS => ?_
        refine st1 hS (lenV rfl Tryd.runUnderlying74) rfl fun a w hS => ?_
        refine st1 hS (bin rfl rfl rfl) rfl fun a w hS => ?_
        refine st1 hS (bin rfl rfl rfl) rfl fun a w hS => ?_
        refine s_call hS rfl Tryd.call32 (inflate_refuse_c hG K (decide (times1356 > (w64 (n_1214 - (l_1317.length : Int))))) (3 : Int) (hS.st.part 0 [0, 1, 2, 3, 4, 5] (by kernel_rfl)) (wp_bind hM) (fun  w hM  hst => s_back hS.ev hst.appF rfl fun hS => ?_) (fun v w hk hst => s_pan (then_pan (blk_pan (then_pan (blk_pan (then_pan (⟨hS.ev.defs, hpan _ _ hk hst.appF.frame⟩))))))))
        replace hS : Ss _ _ _ H [f1217, f1222, f1205, f1353, f1212, f1318] F _ _ := hS
        refine wpList_nil ?_
        refine then_n ?_
        refine wp_seq ?_
        refine wp_region_list ?_
        refine st1 hS (mv rfl) rfl fun a w hS => ?_
        refine st1 hS (mv rfl) rfl fun a w hS => ?_
        refine wpList_nil ?_
        refine then_n ?_
        refine wp_block ?_
        refine s_loopJ (fun k1383 a w => ∃ (A1377 : Option Addr) (c1378 : Nat) (l_1379 : (List Int)) (f1380 : Frag) (v1382 : Int), Ss 63 [] [(0, ptr b1204 0), (1, .int .i64 n_1214), (2, ptr b1216 0), (7, .slice A1377 l_1379.length c1378), (9, .int .i64 value1355), (54, .int .i64 times1356), (55, .int .i64 v1382)] H [f1217, f1222, f1205, f1353, f1212, f1380] F a w ∧ (Vec 3 (ci .i64) 1 A1377 l_1379 c1378 f1380) ∧ (inflate_reader_row.l3 K (inflate_reader_row.l1 K r1203 n_1214 t1215 k1320) at_1352 value1355 times1356 k1383 l_1379 v1382).wp kr kp) K ?_ ?_ ?_
        · exact ⟨A1315, c1316, l_1317, f1318, (0 : Int), hS.to [0, 1, 2, 3, 4, 5] (by kernel_rfl) ⟨rfl, rfl, rfl, rfl, rfl, rfl, rfl, trivial⟩, hV1319, hM⟩
        · intro a w hI; obtain ⟨_, _, _, _, _, _, _, hM⟩ := hI; exact hM
        · intro k1383 a w hI J1395 hJ1395
          obtain ⟨A1377, c1378, l_1379, f1380, v1382, hS, hV1381, hM⟩ := hI
          rw [inflate_reader_row.l3] at hM
          refine wp_seq ?_
          refine wp_region_list ?_
          refine st1 hS (bin rfl rfl rfl) rfl fun a w hS => ?_
          refine wpList_nil ?_
          refine then_n ?_
          refine wp_seq ?_
          refine s_cond hS rfl hM (fun hb1384 hM => ?_) (fun hb1384 hM => ?_)
          · refine wp_skip ?_
            refine then_n ?_
            refine wp_seq ?_
            refine wp_block ?_
            refine wp_region_list ?_
            refine st1 hS (mv rfl) rfl fun a w hS => ?_
            refine st1 hS (mv rfl) rfl fun a w hS => ?_
            refine bsl (g := (ci .i64)) ([value1355] : List Int) [.int .i64 value1355] hS Tryd.runUnderlying74 Tryd.sizeOf3 X.el3 rfl rfl rfl (by simp [Value.cells]) rfl rfl rfl rfl rfl fun w A1385 c1386 f1387 hV1388 hS => ?_
            obtain ⟨hk1389, hM⟩ := wp_chk hM
            refine apV (ys := ([value1355] : List Int)) 6 hS rfl rfl hV1381 rfl (hV1388.rd (i := 0) rfl) Tryd.runUnderlying74 Tryd.runUnderlying74 X.el3 (fun _ => rfl) rfl one_t3 hk1389 rfl fun zs1394 w A1390 c1391 f1392 hz hV1393 hS => ?_
            have hM := lt_to hz hM; clear hz
            refine st1 hS (asg rfl) rfl fun a w hS => ?_
            refine wpList_nil ?_
            refine blk_n (then_n ?_)
            refine wp_region_list ?_
            refine st1 hS (bin rfl rfl rfl) rfl fun a w hS => ?_
            refine st1 hS (mv rfl) rfl fun a w hS => ?_
            refine wpList_nil ?_
            refine then_n ?_
            exact hJ1395 _ _ ⟨A1390, c1391, zs1394, f1392, (w64 (v1382 + (1 : Int))), hS.to [1, 2, 3, 4, 5, 6] (by kernel_rfl) ⟨rfl, rfl, rfl, rfl, rfl, rfl, rfl, trivial⟩, hV1393, hM⟩
          · refine wp_exit ?_
            refine then_ex (then_ex (blk_same (blk_n (then_n ?_))))
            exact hJ1396 _ _ ⟨at_1352, f1353, A1377, c1378, l_1379, f1380, hS.to [0, 1, 2, 3, 4, 5] (by kernel_rfl) ⟨rfl, rfl, rfl, rfl, trivial⟩, hB1354, hV1381, hM⟩
    · refine wp_exit ?_
      refine then_ex (then_ex (blk_same (then_n ?_)))
      refine wp_seq ?_
      refine wp_region_list ?_
      refine st1 hS (mv rfl) rfl fun a w hS => ?_
      refine st1 hS (asg rfl) rfl fun a w hS => ?_
      refine wpList_nil ?_
      refine then_n ?_
      refine wp_ret ?_
      exact s_ret (rs := [6]) hS rfl rfl (hret A1315 c1316 l_1317 f1318 at_1312 f1313 w hM hV1319 hB1314 (hS.st.pick [5, 0, 1, 2, 3, 4] (by kernel_rfl)))
end Go.TrydS
