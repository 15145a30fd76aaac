/- Printed by a program of mine: each Go function answers what its model answers; conditions: what each theorem asks of memory. -/
import Derived.Test.YtkphnjbmheoifaaP1xejbbb
set_option linter.unusedVariables false
set_option linter.unusedSimpArgs false
namespace Go.TryS
open Go Go.Sl Go.Mo Go.Proofs
theorem slices_symMergeCmpFunc_huff_packet__b6e1_7e8b_cr (K : Nat) : ∀ (d : Nat) {H : Imm} {F : List Frag} {w : World} {R : Ending → World → Prop} {kr : (List T_huff_packet) → Prop} {kp : Value → Prop} (hG : Gl H) (data1738 : List T_huff_packet) (a_1746 : Int) (m1747 : Int) (b_1748 : Int) (p1739 : Frag) (A1740 : Option Addr) (c1741 : Nat) (rw1742 : List (Row 2)) (f1744 : Frag) (hr1743 : RelL (R_huff_packet p1739) data1738 rw1742) (hV1745 : Vec 70 (Row.v (sz := 2)) 2 A1740 rw1742 c1741 f1744)
    (hS : St w H [p1739, f1744] F) (hm : (slices_symMergeCmpFunc_huff_packet__b6e1_7e8b.r K d data1738 a_1746 m1747 b_1748).wp kr kp)
    (hret : ∀ (rw2073 : List (Row 2)) (data2074 : (List T_huff_packet)) (f2075 : Frag) (w : World), kr data2074 → (Vec 70 (Row.v (sz := 2)) 2 A1740 rw2073 c1741 f2075) → (RelL (R_huff_packet p1739) data2074 rw2073) → (rw2073.length = rw1742.length) → St w H [p1739, f2075] F → R (.returned (.tuple ⟨[]⟩)) w),
    Calls Try.prog 44 ⟨[.slice A1740 rw1742.length c1741, .int .i64 a_1746, .int .i64 m1747, .int .i64 b_1748, fnv 33 [] []]⟩ w R := by
  intro d
  induction d with
  | zero => intro H F w R kr kp hG data1738 a_1746 m1747 b_1748 p1739 A1740 c1741 rw1742 f1744 hr1743 hV1745 hS hm hret; exact (show False from hm).elim
  | succ d ih =>
  intro H F w R kr kp hG data1738 a_1746 m1747 b_1748 p1739 A1740 c1741 rw1742 f1744 hr1743 hV1745 hS hm hret
  have hM := hm; clear hm
  rw [slices_symMergeCmpFunc_huff_packet__b6e1_7e8b.r] at hM; rw [slices_symMergeCmpFunc_huff_packet__b6e1_7e8b.b] at hM
  refine enter Try.func44 rfl Try.ntmps44 rfl hS fun a w hS => ?_
  have hs1749 : ∀ q ∈ p1739, q ∈ p1739 := fun _ h => h
  have hz1750 : rw1742.length = rw1742.length := rfl
  refine seq_joinJ (fun a w => Ss 220 [] [(0, .slice A1740 rw1742.length c1741), (1, .int .i64 a_1746), (2, .int .i64 m1747), (3, .int .i64 b_1748), (4, fnv 33 [] [])] H [p1739, f1744] F a w ∧ (slices_symMergeCmpFunc_huff_packet__b6e1_7e8b.j4 K (slices_symMergeCmpFunc_huff_packet__b6e1_7e8b.r K d) data1738 a_1746 m1747 b_1748).wp kr kp) (fun J1875 hJ1875 => ?_) ?_
  · refine wp_seq ?_
    refine wp_region_list ?_
    refine st1 hS (mv rfl) rfl fun a w hS => ?_
    refine st1 hS (mv rfl) rfl fun a w hS => ?_
    refine st1 hS (bin rfl rfl rfl) rfl fun a w hS => ?_
    refine st1 hS (bin rfl rfl rfl) rfl fun a w hS => ?_
    refine wpList_nil ?_
    refine then_n ?_
    refine s_cond hS rfl hM (fun hb1751 hM => ?_) (fun hb1751 hM => ?_)
    · refine wp_seq ?_
      refine wp_region_list ?_
      refine st1 hS (mv rfl) rfl fun a w hS => ?_
      refine st1 hS (asg rfl) rfl fun a w hS => ?_
      refine wpList_nil ?_
      refine then_n ?_
      refine wp_seq ?_
      refine wp_region_list ?_
      refine st1 hS (mv rfl) rfl fun a w hS => ?_
      refine st1 hS (asg rfl) rfl fun a w hS => ?_
      refine wpList_nil ?_
      refine then_n ?_
      refine seq_joinJ (fun a w => ∃ (i1775 : Int), Ss 220 [] [(0, .slice A1740 rw1742.length c1741), (1, .int .i64 a_1746), (10, .int .i64 i1775)] H [p1739, f1744] F a w ∧ (slices_symMergeCmpFunc_huff_packet__b6e1_7e8b.j2 K (slices_symMergeCmpFunc_huff_packet__b6e1_7e8b.r K d) data1738 a_1746 i1775).wp kr kp) (fun J1776 hJ1776 => ?_) ?_
      · refine wp_block ?_
        refine s_loopJ (fun k1754 a w => ∃ (i1752 : Int) (j1753 : Int), Ss 220 [] [(0, .slice A1740 rw1742.length c1741), (1, .int .i64 a_1746), (4, fnv 33 [] []), (10, .int .i64 i1752), (11, .int .i64 j1753)] H [p1739, f1744] F a w ∧ (slices_symMergeCmpFunc_huff_packet__b6e1_7e8b.l1 K (slices_symMergeCmpFunc_huff_packet__b6e1_7e8b.r K d) data1738 a_1746 k1754 i1752 j1753).wp kr kp) K ?_ ?_ ?_
        · exact ⟨m1747, b_1748, hS.to [0, 1] (by kernel_rfl) ⟨rfl, rfl, rfl, rfl, rfl, trivial⟩, hM⟩
        · intro a w hI; obtain ⟨_, _, _, hM⟩ := hI; exact hM
        · intro k1754 a w hI J1774 hJ1774
          obtain ⟨i1752, j1753, hS, hM⟩ := hI
          rw [slices_symMergeCmpFunc_huff_packet__b6e1_7e8b.l1] at hM
          refine wp_seq ?_
          refine wp_seq ?_
          refine wp_region_list ?_
          refine st1 hS (mv rfl) rfl fun a w hS => ?_
          refine st1 hS (mv rfl) rfl fun a w hS => ?_
          refine st1 hS (bin rfl rfl rfl) rfl fun a w hS => ?_
          refine wpList_nil ?_
          refine then_n ?_
          refine s_cond hS rfl hM (fun hb1755 hM => ?_) (fun hb1755 hM => ?_)
          · refine wp_skip ?_
            refine then_n ?_
            refine wp_block ?_
            refine wp_seq ?_
            refine wp_region_list ?_
            refine st1 hS (mv rfl) rfl fun a w hS => ?_
            refine st1 hS (mv rfl) rfl fun a w hS => ?_
            refine st1 hS (bin rfl rfl rfl) rfl fun a w hS => ?_
            refine st1 hS (cvi rfl Try.runUnderlying3 Try.runUnderlying46) rfl fun a w hS => ?_
            refine st1 hS (shr rfl rfl rfl) rfl fun a w hS => ?_
            refine st1 hS (cvi rfl Try.runUnderlying46 Try.runUnderlying3) rfl fun a w hS => ?_
            refine st1x (v := Value.int .i64) hS (asg rfl) rfl fun h1756 a w hz hS => ?_
            have hM := lt_to hz hM; clear hz
            refine wpList_nil ?_
            refine then_n ?_
            refine wp_seq ?_
            obtain ⟨hk1758, hM⟩ := wp_chk hM
            obtain ⟨A1759, c1760, hw1763, hp1761, hc1762⟩ := hr1743.get hk1758
            obtain ⟨hk1765, hM⟩ := wp_chk hM
            obtain ⟨A1766, c1767, hw1770, hp1768, hc1769⟩ := hr1743.get hk1765
            refine draw_begin (vals := [some (fnv 33 [] []), some (.slice A1740 rw1742.length c1741), some (.int .i64 h1756), some (slp A1740 (Int.toNat h1756 * 2)), some (.agg ⟨[.int .i64 ((rd data1738 h1756).often_), .slice A1759 ((rd data1738 h1756).symbols_).length c1760]⟩), some (.slice A1740 rw1742.length c1741), some (.int .i64 a_1746), some (slp A1740 (Int.toNat a_1746 * 2)), some (.agg ⟨[.int .i64 ((rd data1738 a_1746).often_), .slice A1766 ((rd data1738 a_1746).symbols_).length c1767]⟩), none, none]) hS mixed rfl ?_
            intro l w ho hcl hA hst
            refine phase' (vals := [some (fnv 33 [] []), some (.slice A1740 rw1742.length c1741), some (.int .i64 h1756), some (slp A1740 (Int.toNat h1756 * 2)), some (.agg ⟨[.int .i64 ((rd data1738 h1756).often_), .slice A1759 ((rd data1738 h1756).symbols_).length c1760]⟩), some (.slice A1740 rw1742.length c1741), some (.int .i64 a_1746), some (slp A1740 (Int.toNat a_1746 * 2)), some (.agg ⟨[.int .i64 ((rd data1738 a_1746).often_), .slice A1766 ((rd data1738 a_1746).symbols_).length c1767]⟩), none, none]) 9 [] [0, 1, 2, 3, 4, 5, 6, 7, 8] rfl rfl rfl rfl (by exact ⟨nR rfl rfl rfl rfl rfl (by exact ovE (mv rfl) rfl), nR rfl rfl rfl rfl rfl (by exact ovE (mv rfl) rfl), nR rfl rfl rfl rfl rfl (by exact ovE (mv rfl) rfl), nR rfl rfl rfl rfl rfl (by exact ovE (ixV rfl rfl Try.runUnderlying68 Try.sizeOf70 (hV1745.rd (i := 1) rfl) Row.len rfl (hr1743.inb hk1758)) rfl), nR rfl rfl rfl rfl rfl (by exact ovE (ovE (ldVA rfl (hV1745.rd (i := 1) rfl) Row.len (hr1743.inb hk1758) Try.isAgg70 Try.sizeOf70 rfl) (congrArg (fun l => Value.agg ⟨l⟩) hw1763)) rfl), nR rfl rfl rfl rfl rfl (by exact ovE (mv rfl) rfl), nR rfl rfl rfl rfl rfl (by exact ovE (mv rfl) rfl), nR rfl rfl rfl rfl rfl (by exact ovE (ixV rfl rfl Try.runUnderlying68 Try.sizeOf70 (hV1745.rd (i := 1) rfl) Row.len rfl (hr1743.inb hk1765)) rfl), nR rfl rfl rfl rfl rfl (by exact ovE (ovE (ldVA rfl (hV1745.rd (i := 1) rfl) Row.len (hr1743.inb hk1765) Try.isAgg70 Try.sizeOf70 rfl) (congrArg (fun l => Value.agg ⟨l⟩) hw1770)) rfl), trivial⟩) (fun D l a w ho hcl hav hpre hm hE hk hA hst => ?_) ho hcl (fun j hj => (List.not_mem_nil hj).elim) (fun m hm => (List.not_mem_nil hm).elim) List.not_mem_nil hA hst
            have hS := (Ss.mk hE hst).env2 (e' := [(40, fnv 33 [] []), (44, .agg ⟨[.int .i64 ((rd data1738 h1756).often_), .slice A1759 ((rd data1738 h1756).symbols_).length c1760]⟩), (48, .agg ⟨[.int .i64 ((rd data1738 a_1746).often_), .slice A1766 ((rd data1738 a_1746).symbols_).length c1767]⟩)]) ⟨rfl, rfl, rfl, trivial⟩
            refine op_of_nth rfl ?_
            refine s_callV hS rfl rfl Try.call33 (huff_Lengths_2_c hG K (T_huff_packet.mk ((rd data1738 h1756).often_) ((rd data1738 h1756).symbols_)) (T_huff_packet.mk ((rd data1738 a_1746).often_) ((rd data1738 a_1746).symbols_)) A1759 c1760 A1766 c1767 (hp1761.rdF (i := 0) rfl) hc1762 (hp1768.rdF (i := 0) rfl) hc1769 (hS.st.part 0 [0, 1] (by kernel_rfl)) (wp_bind hM) (fun x1771 w hM  hst => s_back hS.ev hst.appF rfl fun hS => ?_))
            replace hS : Ss _ _ _ H [p1739, f1744] F _ _ := hS
            refine wpList_nil (then_n ?_)
            have hcl2 := hcl.cons (k := 9) (nth_get rfl) hpre
            have hmust := must_cons (k := 9) hm (chain (k := 9) hcl (nth_get rfl) hpre [(0, 9), (4, 9), (8, 9), (3, 4), (7, 8), (1, 3), (2, 3), (5, 7), (6, 7)] [] rfl (fun _ h => absurd h List.not_mem_nil))
            replace hst := hS.st
            have hav2 := hav.cons (vals' := [some (fnv 33 [] []), some (.slice A1740 rw1742.length c1741), some (.int .i64 h1756), some (slp A1740 (Int.toNat h1756 * 2)), some (.agg ⟨[.int .i64 ((rd data1738 h1756).often_), .slice A1759 ((rd data1738 h1756).symbols_).length c1760]⟩), some (.slice A1740 rw1742.length c1741), some (.int .i64 a_1746), some (slp A1740 (Int.toNat a_1746 * 2)), some (.agg ⟨[.int .i64 ((rd data1738 a_1746).often_), .slice A1766 ((rd data1738 a_1746).symbols_).length c1767]⟩), some (.int .i64 x1771), some (.bool (decide (x1771 < (0 : Int))))]) (k := 9) ⟨rfl, rfl, rfl, rfl, rfl, rfl, rfl, rfl, rfl, trivial⟩ rfl
            replace hA := (hA.next hav (subV.get (l' := [some (fnv 33 [] []), some (.slice A1740 rw1742.length c1741), some (.int .i64 h1756), some (slp A1740 (Int.toNat h1756 * 2)), some (.agg ⟨[.int .i64 ((rd data1738 h1756).often_), .slice A1759 ((rd data1738 h1756).symbols_).length c1760]⟩), some (.slice A1740 rw1742.length c1741), some (.int .i64 a_1746), some (slp A1740 (Int.toNat a_1746 * 2)), some (.agg ⟨[.int .i64 ((rd data1738 a_1746).often_), .slice A1766 ((rd data1738 a_1746).symbols_).length c1767]⟩), some (.int .i64 x1771), some (.bool (decide (x1771 < (0 : Int))))]) ⟨rfl, rfl, rfl, rfl, rfl, rfl, rfl, rfl, rfl, trivial⟩)).step rfl (nth_get rfl) hk rfl rfl rfl
            clear hm hav
            replace hcl := hcl2
            refine phaseE (vals := [some (fnv 33 [] []), some (.slice A1740 rw1742.length c1741), some (.int .i64 h1756), some (slp A1740 (Int.toNat h1756 * 2)), some (.agg ⟨[.int .i64 ((rd data1738 h1756).often_), .slice A1759 ((rd data1738 h1756).symbols_).length c1760]⟩), some (.slice A1740 rw1742.length c1741), some (.int .i64 a_1746), some (slp A1740 (Int.toNat a_1746 * 2)), some (.agg ⟨[.int .i64 ((rd data1738 a_1746).often_), .slice A1766 ((rd data1738 a_1746).symbols_).length c1767]⟩), some (.int .i64 x1771), some (.bool (decide (x1771 < (0 : Int))))]) [9, 0, 4, 8, 3, 7, 1, 2, 5, 6] [10] rfl rfl rfl (by exact ⟨nR rfl rfl rfl rfl rfl (by exact ovE (bin rfl rfl rfl) rfl), trivial⟩) (fun a w hS => ?_) ho hcl hmust hA hst
            replace hS := hS.env2 (e' := [(0, .slice A1740 rw1742.length c1741), (1, .int .i64 a_1746), (4, fnv 33 [] []), (10, .int .i64 i1752), (11, .int .i64 j1753), (12, .int .i64 h1756), (50, .bool (decide (x1771 < (0 : Int))))]) ⟨rfl, rfl, rfl, rfl, rfl, rfl, rfl, trivial⟩
            refine then_n ?_
            refine s_cond hS rfl hM (fun hb1772 hM => ?_) (fun hb1772 hM => ?_)
            · refine wp_region_list ?_
              refine st1 hS (mv rfl) rfl fun a w hS => ?_
              refine st1 hS (bin rfl rfl rfl) rfl fun a w hS => ?_
              refine st1x (v := Value.int .i64) hS (asg rfl) rfl fun i1773 a w hz hS => ?_
              have hM := lt_to hz hM; clear hz
              refine wpList_nil ?_
              refine blk_n (then_n ?_)
              exact hJ1774 _ _ ⟨i1773, j1753, hS.to [0, 1] (by kernel_rfl) ⟨rfl, rfl, rfl, rfl, rfl, trivial⟩, hM⟩
            · refine wp_region_list ?_
              refine st1 hS (mv rfl) rfl fun a w hS => ?_
              refine st1 hS (asg rfl) rfl fun a w hS => ?_
              refine wpList_nil ?_
              refine blk_n (then_n ?_)
              exact hJ1774 _ _ ⟨i1752, h1756, hS.to [0, 1] (by kernel_rfl) ⟨rfl, rfl, rfl, rfl, rfl, trivial⟩, hM⟩
          · refine wp_exit ?_
            refine then_ex (then_ex (blk_same (then_n ?_)))
            exact hJ1776 _ _ ⟨i1752, hS.to [0, 1] (by kernel_rfl) ⟨rfl, rfl, rfl, trivial⟩, hM⟩
      · intro a w hI
        obtain ⟨i1775, hS, hM⟩ := hI
        rw [slices_symMergeCmpFunc_huff_packet__b6e1_7e8b.j2] at hM
        refine wp_seq ?_
        refine wp_seq ?_
        refine wp_region_list ?_
        refine st1 hS (mv rfl) rfl fun a w hS => ?_
        refine st1 hS (asg rfl) rfl fun a w hS => ?_
        refine wpList_nil ?_
        refine then_n ?_
        refine wp_block ?_
        refine s_loopJ (fun k1833 a w => ∃ (rw1826 : List (Row 2)) (data1827 : (List T_huff_packet)) (f1828 : Frag) (k_1832 : Int), Ss 220 [] [(0, .slice A1740 rw1826.length c1741), (10, .int .i64 i1775), (13, .int .i64 k_1832)] H [p1739, f1828] F a w ∧ (Vec 70 (Row.v (sz := 2)) 2 A1740 rw1826 c1741 f1828) ∧ (RelL (R_huff_packet p1739) data1827 rw1826) ∧ (rw1826.length = rw1742.length) ∧ (slices_symMergeCmpFunc_huff_packet__b6e1_7e8b.l3 K (slices_symMergeCmpFunc_huff_packet__b6e1_7e8b.r K d) i1775 k1833 data1827 k_1832).wp kr kp) K ?_ ?_ ?_
        · exact ⟨rw1742, data1738, f1744, a_1746, hS.to [0, 1] (by kernel_rfl) ⟨rfl, rfl, rfl, trivial⟩, hV1745, hr1743, hz1750, hM⟩
        · intro a w hI; obtain ⟨_, _, _, _, _, _, _, _, hM⟩ := hI; exact hM
        · intro k1833 a w hI J1874 hJ1874
          obtain ⟨rw1826, data1827, f1828, k_1832, hS, hV1829, hr1830, hz1831, hM⟩ := hI
          rw [slices_symMergeCmpFunc_huff_packet__b6e1_7e8b.l3] at hM
          refine wp_seq ?_
          refine wp_seq ?_
          refine wp_region_list ?_
          refine st1 hS (mv rfl) rfl fun a w hS => ?_
          refine st1 hS (mv rfl) rfl fun a w hS => ?_
          refine st1 hS (bin rfl rfl rfl) rfl fun a w hS => ?_
          refine st1 hS (bin rfl rfl rfl) rfl fun a w hS => ?_
          refine wpList_nil ?_
          refine then_n ?_
          refine s_cond hS rfl hM (fun hb1834 hM => ?_) (fun hb1834 hM => ?_)
          · refine wp_skip ?_
            refine then_n ?_
            refine wp_seq ?_
            refine wp_block ?_
            obtain ⟨hk1836, hM⟩ := wp_chk hM
            obtain ⟨A1837, c1838, hw1841, hp1839, hc1840⟩ := hr1830.get hk1836
            obtain ⟨hk1843, hM⟩ := wp_chk hM
            obtain ⟨A1844, c1845, hw1848, hp1846, hc1847⟩ := hr1830.get hk1843
            refine draw_begin (vals := [some (.slice A1740 rw1826.length c1741), some (.int .i64 k_1832), some (.slice A1740 rw1826.length c1741), some (.int .i64 k_1832), some (.int .i64 (w64 (k_1832 + (1 : Int)))), some (.slice A1740 rw1826.length c1741), some (.int .i64 k_1832), some (.int .i64 (w64 (k_1832 + (1 : Int)))), some (slp A1740 (Int.toNat (w64 (k_1832 + (1 : Int))) * 2)), some (.agg ⟨[.int .i64 ((rd data1827 (w64 (k_1832 + (1 : Int)))).often_), .slice A1837 ((rd data1827 (w64 (k_1832 + (1 : Int)))).symbols_).length c1838]⟩), some (.slice A1740 rw1826.length c1741), some (.int .i64 k_1832), some (slp A1740 (Int.toNat k_1832 * 2)), some (.agg ⟨[.int .i64 ((rd data1827 k_1832).often_), .slice A1844 ((rd data1827 k_1832).symbols_).length c1845]⟩), some (slp A1740 (Int.toNat k_1832 * 2)), none, none, none]) hS mixed rfl ?_
            intro l w ho hcl hA hst
            refine phase' (vals := [some (.slice A1740 rw1826.length c1741), some (.int .i64 k_1832), some (.slice A1740 rw1826.length c1741), some (.int .i64 k_1832), some (.int .i64 (w64 (k_1832 + (1 : Int)))), some (.slice A1740 rw1826.length c1741), some (.int .i64 k_1832), some (.int .i64 (w64 (k_1832 + (1 : Int)))), some (slp A1740 (Int.toNat (w64 (k_1832 + (1 : Int))) * 2)), some (.agg ⟨[.int .i64 ((rd data1827 (w64 (k_1832 + (1 : Int)))).often_), .slice A1837 ((rd data1827 (w64 (k_1832 + (1 : Int)))).symbols_).length c1838]⟩), some (.slice A1740 rw1826.length c1741), some (.int .i64 k_1832), some (slp A1740 (Int.toNat k_1832 * 2)), some (.agg ⟨[.int .i64 ((rd data1827 k_1832).often_), .slice A1844 ((rd data1827 k_1832).symbols_).length c1845]⟩), some (slp A1740 (Int.toNat k_1832 * 2)), none, none, none]) 15 [] [0, 1, 2, 3, 4, 5, 6, 7, 8, 9, 10, 11, 12, 13, 14] rfl rfl rfl rfl (by exact ⟨nR rfl rfl rfl rfl rfl (by exact ovE (mv rfl) rfl), nR rfl rfl rfl rfl rfl (by exact ovE (mv rfl) rfl), nR rfl rfl rfl rfl rfl (by exact ovE (mv rfl) rfl), nR rfl rfl rfl rfl rfl (by exact ovE (mv rfl) rfl), nR rfl rfl rfl rfl rfl (by exact ovE (bin rfl rfl rfl) rfl), nR rfl rfl rfl rfl rfl (by exact ovE (mv rfl) rfl), nR rfl rfl rfl rfl rfl (by exact ovE (mv rfl) rfl), nR rfl rfl rfl rfl rfl (by exact ovE (bin rfl rfl rfl) rfl), nR rfl rfl rfl rfl rfl (by exact ovE (ixV rfl rfl Try.runUnderlying68 Try.sizeOf70 (hV1829.rd (i := 1) rfl) Row.len rfl (hr1830.inb hk1836)) rfl), nR rfl rfl rfl rfl rfl (by exact ovE (ovE (ldVA rfl (hV1829.rd (i := 1) rfl) Row.len (hr1830.inb hk1836) Try.isAgg70 Try.sizeOf70 rfl) (congrArg (fun l => Value.agg ⟨l⟩) hw1841)) rfl), nR rfl rfl rfl rfl rfl (by exact ovE (mv rfl) rfl), nR rfl rfl rfl rfl rfl (by exact ovE (mv rfl) rfl), nR rfl rfl rfl rfl rfl (by exact ovE (ixV rfl rfl Try.runUnderlying68 Try.sizeOf70 (hV1829.rd (i := 1) rfl) Row.len rfl (hr1830.inb hk1843)) rfl), nR rfl rfl rfl rfl rfl (by exact ovE (ovE (ldVA rfl (hV1829.rd (i := 1) rfl) Row.len (hr1830.inb hk1843) Try.isAgg70 Try.sizeOf70 rfl) (congrArg (fun l => Value.agg ⟨l⟩) hw1848)) rfl), nR rfl rfl rfl rfl rfl (by exact ovE (ixV rfl rfl Try.runUnderlying68 Try.sizeOf70 (hV1829.rd (i := 1) rfl) Row.len rfl (hr1830.inb hk1843)) rfl), trivial⟩) (fun D l a w ho hcl hav hpre hm hE hk hA hst => ?_) ho hcl (fun j hj => (List.not_mem_nil hj).elim) (fun m hm => (List.not_mem_nil hm).elim) List.not_mem_nil hA hst
            have hS := (Ss.mk hE hst).env2 (e' := [(70, .agg ⟨[.int .i64 ((rd data1827 (w64 (k_1832 + (1 : Int)))).often_), .slice A1837 ((rd data1827 (w64 (k_1832 + (1 : Int)))).symbols_).length c1838]⟩), (75, slp A1740 (Int.toNat k_1832 * 2))]) ⟨rfl, rfl, trivial⟩
            refine op_of_nth rfl ?_
            refine stVR 1 (⟨[.int .i64 ((rd data1827 (w64 (k_1832 + (1 : Int)))).often_), .slice A1837 ((rd data1827 (w64 (k_1832 + (1 : Int)))).symbols_).length c1838], by simp, by simp [Value.oneCell']⟩ : Row 2) hS rfl rfl hV1829 rfl Try.sizeOf70 rfl (hr1830.inb hk1843) fun rw1855 w f1853 hz hV1854 hS => ?_
            obtain ⟨zs1856, hzm⟩ : ∃ z, z = data1827.set (Int.toNat k_1832) (T_huff_packet.mk ((rd data1827 (w64 (k_1832 + (1 : Int)))).often_) ((rd data1827 (w64 (k_1832 + (1 : Int)))).symbols_)) := ⟨_, rfl⟩
            replace hM := lt_to hzm hM
            have hr1857 := RelL.set (x := (T_huff_packet.mk ((rd data1827 (w64 (k_1832 + (1 : Int)))).often_) ((rd data1827 (w64 (k_1832 + (1 : Int)))).symbols_))) (r := (⟨[.int .i64 ((rd data1827 (w64 (k_1832 + (1 : Int)))).often_), .slice A1837 ((rd data1827 (w64 (k_1832 + (1 : Int)))).symbols_).length c1838], by simp, by simp [Value.oneCell']⟩ : Row 2)) (Int.toNat k_1832) hr1830 (show R_huff_packet p1739 _ _ from ⟨A1837, c1838, rfl, hp1839, hc1840⟩)
            have hz1858 : rw1855.length = rw1826.length := by rw [hz]; exact List.length_set ..
            rw [← hz, ← hzm] at hr1857; clear hz hzm
            have hz1859 := Eq.trans hz1858 hz1831
            refine wpList_nil (then_n ?_)
            have hcl2 := hcl.cons (k := 15) (nth_get rfl) hpre
            have hmust := must_cons (k := 15) hm (chain (k := 15) hcl (nth_get rfl) hpre [(0, 15), (1, 15), (5, 15), (6, 15), (7, 15), (8, 15), (9, 15), (13, 15), (14, 15), (12, 13), (10, 12), (11, 12)] [] rfl (fun _ h => absurd h List.not_mem_nil))
            replace hst := hS.st
            obtain ⟨hk1861, hM⟩ := wp_chk hM
            have hav2 := hav.cons (vals' := [some (.slice A1740 rw1826.length c1741), some (.int .i64 k_1832), some (.slice A1740 rw1826.length c1741), some (.int .i64 k_1832), some (.int .i64 (w64 (k_1832 + (1 : Int)))), some (.slice A1740 rw1826.length c1741), some (.int .i64 k_1832), some (.int .i64 (w64 (k_1832 + (1 : Int)))), some (slp A1740 (Int.toNat (w64 (k_1832 + (1 : Int))) * 2)), some (.agg ⟨[.int .i64 ((rd data1827 (w64 (k_1832 + (1 : Int)))).often_), .slice A1837 ((rd data1827 (w64 (k_1832 + (1 : Int)))).symbols_).length c1838]⟩), some (.slice A1740 rw1826.length c1741), some (.int .i64 k_1832), some (slp A1740 (Int.toNat k_1832 * 2)), some (.agg ⟨[.int .i64 ((rd data1827 k_1832).often_), .slice A1844 ((rd data1827 k_1832).symbols_).length c1845]⟩), some (slp A1740 (Int.toNat k_1832 * 2)), some undef, some (slp A1740 (Int.toNat (w64 (k_1832 + (1 : Int))) * 2)), none]) (k := 15) ⟨rfl, rfl, rfl, rfl, rfl, rfl, rfl, rfl, rfl, rfl, rfl, rfl, rfl, rfl, rfl, trivial⟩ rfl
            replace hA := (hA.next hav (subV.get (l' := [some (.slice A1740 rw1826.length c1741), some (.int .i64 k_1832), some (.slice A1740 rw1826.length c1741), some (.int .i64 k_1832), some (.int .i64 (w64 (k_1832 + (1 : Int)))), some (.slice A1740 rw1826.length c1741), some (.int .i64 k_1832), some (.int .i64 (w64 (k_1832 + (1 : Int)))), some (slp A1740 (Int.toNat (w64 (k_1832 + (1 : Int))) * 2)), some (.agg ⟨[.int .i64 ((rd data1827 (w64 (k_1832 + (1 : Int)))).often_), .slice A1837 ((rd data1827 (w64 (k_1832 + (1 : Int)))).symbols_).length c1838]⟩), some (.slice A1740 rw1826.length c1741), some (.int .i64 k_1832), some (slp A1740 (Int.toNat k_1832 * 2)), some (.agg ⟨[.int .i64 ((rd data1827 k_1832).often_), .slice A1844 ((rd data1827 k_1832).symbols_).length c1845]⟩), some (slp A1740 (Int.toNat k_1832 * 2)), some undef, some (slp A1740 (Int.toNat (w64 (k_1832 + (1 : Int))) * 2)), none]) ⟨rfl, rfl, rfl, rfl, rfl, rfl, rfl, rfl, rfl, rfl, rfl, rfl, rfl, rfl, rfl, trivial⟩)).stepN (i := 15) (nth_get rfl) rfl
            clear hm hav
            replace hcl := hcl2
            refine phase' (vals := [some (.slice A1740 rw1826.length c1741), some (.int .i64 k_1832), some (.slice A1740 rw1826.length c1741), some (.int .i64 k_1832), some (.int .i64 (w64 (k_1832 + (1 : Int)))), some (.slice A1740 rw1826.length c1741), some (.int .i64 k_1832), some (.int .i64 (w64 (k_1832 + (1 : Int)))), some (slp A1740 (Int.toNat (w64 (k_1832 + (1 : Int))) * 2)), some (.agg ⟨[.int .i64 ((rd data1827 (w64 (k_1832 + (1 : Int)))).often_), .slice A1837 ((rd data1827 (w64 (k_1832 + (1 : Int)))).symbols_).length c1838]⟩), some (.slice A1740 rw1826.length c1741), some (.int .i64 k_1832), some (slp A1740 (Int.toNat k_1832 * 2)), some (.agg ⟨[.int .i64 ((rd data1827 k_1832).often_), .slice A1844 ((rd data1827 k_1832).symbols_).length c1845]⟩), some (slp A1740 (Int.toNat k_1832 * 2)), some undef, some (slp A1740 (Int.toNat (w64 (k_1832 + (1 : Int))) * 2)), none]) 17 [15, 0, 1, 5, 6, 7, 8, 9, 13, 14, 12, 10, 11] [2, 3, 4, 16] rfl rfl rfl rfl (by exact ⟨nR rfl rfl rfl rfl rfl (by exact ovE (mv rfl) rfl), nR rfl rfl rfl rfl rfl (by exact ovE (mv rfl) rfl), nR rfl rfl rfl rfl rfl (by exact ovE (bin rfl rfl rfl) rfl), nR rfl rfl rfl rfl rfl (by exact ovE (ixV (lenx hz1858 rfl) rfl Try.runUnderlying68 Try.sizeOf70 (hV1854.rd (i := 1) rfl) Row.len rfl (hr1857.inb hk1861)) rfl), trivial⟩) (fun D l a w ho hcl hav hpre hm hE hk hA hst => ?_) ho hcl hav2 hmust (hav2.notin rfl) hA hst
            have hS := (Ss.mk hE hst).env2 (e' := [(74, .agg ⟨[.int .i64 ((rd data1827 k_1832).often_), .slice A1844 ((rd data1827 k_1832).symbols_).length c1845]⟩), (76, slp A1740 (Int.toNat (w64 (k_1832 + (1 : Int))) * 2))]) ⟨rfl, rfl, trivial⟩
            refine op_of_nth rfl ?_
            refine stVR 1 (⟨[.int .i64 ((rd data1827 k_1832).often_), .slice A1844 ((rd data1827 k_1832).symbols_).length c1845], by simp, by simp [Value.oneCell']⟩ : Row 2) hS rfl rfl hV1854 rfl Try.sizeOf70 rfl (hr1857.inb hk1861) fun rw1868 w f1866 hz hV1867 hS => ?_
            obtain ⟨zs1869, hzm⟩ : ∃ z, z = zs1856.set (Int.toNat (w64 (k_1832 + (1 : Int)))) (T_huff_packet.mk ((rd data1827 k_1832).often_) ((rd data1827 k_1832).symbols_)) := ⟨_, rfl⟩
            replace hM := lt_to hzm hM
            have hr1870 := RelL.set (x := (T_huff_packet.mk ((rd data1827 k_1832).often_) ((rd data1827 k_1832).symbols_))) (r := (⟨[.int .i64 ((rd data1827 k_1832).often_), .slice A1844 ((rd data1827 k_1832).symbols_).length c1845], by simp, by simp [Value.oneCell']⟩ : Row 2)) (Int.toNat (w64 (k_1832 + (1 : Int)))) hr1857 (show R_huff_packet p1739 _ _ from ⟨A1844, c1845, rfl, hp1846, hc1847⟩)
            have hz1871 : rw1868.length = rw1855.length := by rw [hz]; exact List.length_set ..
            rw [← hz, ← hzm] at hr1870; clear hz hzm
            have hz1872 := Eq.trans hz1871 hz1859
            refine wpList_nil (then_n ?_)
            have hcl2 := hcl.cons (k := 17) (nth_get rfl) hpre
            have hmust := must_cons (k := 17) hm (chain (k := 17) hcl (nth_get rfl) hpre [(0, 17), (1, 17), (2, 17), (3, 17), (4, 17), (5, 17), (6, 17), (7, 17), (8, 17), (9, 17), (10, 17), (11, 17), (12, 17), (13, 17), (14, 17), (15, 17), (16, 17)] [] rfl (fun _ h => absurd h List.not_mem_nil))
            replace hst := hS.st
            have hav2 := hav.cons (vals' := [some (.slice A1740 rw1826.length c1741), some (.int .i64 k_1832), some (.slice A1740 rw1826.length c1741), some (.int .i64 k_1832), some (.int .i64 (w64 (k_1832 + (1 : Int)))), some (.slice A1740 rw1826.length c1741), some (.int .i64 k_1832), some (.int .i64 (w64 (k_1832 + (1 : Int)))), some (slp A1740 (Int.toNat (w64 (k_1832 + (1 : Int))) * 2)), some (.agg ⟨[.int .i64 ((rd data1827 (w64 (k_1832 + (1 : Int)))).often_), .slice A1837 ((rd data1827 (w64 (k_1832 + (1 : Int)))).symbols_).length c1838]⟩), some (.slice A1740 rw1826.length c1741), some (.int .i64 k_1832), some (slp A1740 (Int.toNat k_1832 * 2)), some (.agg ⟨[.int .i64 ((rd data1827 k_1832).often_), .slice A1844 ((rd data1827 k_1832).symbols_).length c1845]⟩), some (slp A1740 (Int.toNat k_1832 * 2)), some undef, some (slp A1740 (Int.toNat (w64 (k_1832 + (1 : Int))) * 2)), some undef]) (k := 17) ⟨rfl, rfl, rfl, rfl, rfl, rfl, rfl, rfl, rfl, rfl, rfl, rfl, rfl, rfl, rfl, rfl, rfl, trivial⟩ rfl
            replace hA := (hA.next hav (subV.get (l' := [some (.slice A1740 rw1826.length c1741), some (.int .i64 k_1832), some (.slice A1740 rw1826.length c1741), some (.int .i64 k_1832), some (.int .i64 (w64 (k_1832 + (1 : Int)))), some (.slice A1740 rw1826.length c1741), some (.int .i64 k_1832), some (.int .i64 (w64 (k_1832 + (1 : Int)))), some (slp A1740 (Int.toNat (w64 (k_1832 + (1 : Int))) * 2)), some (.agg ⟨[.int .i64 ((rd data1827 (w64 (k_1832 + (1 : Int)))).often_), .slice A1837 ((rd data1827 (w64 (k_1832 + (1 : Int)))).symbols_).length c1838]⟩), some (.slice A1740 rw1826.length c1741), some (.int .i64 k_1832), some (slp A1740 (Int.toNat k_1832 * 2)), some (.agg ⟨[.int .i64 ((rd data1827 k_1832).often_), .slice A1844 ((rd data1827 k_1832).symbols_).length c1845]⟩), some (slp A1740 (Int.toNat k_1832 * 2)), some undef, some (slp A1740 (Int.toNat (w64 (k_1832 + (1 : Int))) * 2)), some undef]) ⟨rfl, rfl, rfl, rfl, rfl, rfl, rfl, rfl, rfl, rfl, rfl, rfl, rfl, rfl, rfl, rfl, rfl, trivial⟩)).stepN (i := 17) (nth_get rfl) rfl
            clear hm hav
            replace hcl := hcl2
            refine phaseE (vals := [some (.slice A1740 rw1826.length c1741), some (.int .i64 k_1832), some (.slice A1740 rw1826.length c1741), some (.int .i64 k_1832), some (.int .i64 (w64 (k_1832 + (1 : Int)))), some (.slice A1740 rw1826.length c1741), some (.int .i64 k_1832), some (.int .i64 (w64 (k_1832 + (1 : Int)))), some (slp A1740 (Int.toNat (w64 (k_1832 + (1 : Int))) * 2)), some (.agg ⟨[.int .i64 ((rd data1827 (w64 (k_1832 + (1 : Int)))).often_), .slice A1837 ((rd data1827 (w64 (k_1832 + (1 : Int)))).symbols_).length c1838]⟩), some (.slice A1740 rw1826.length c1741), some (.int .i64 k_1832), some (slp A1740 (Int.toNat k_1832 * 2)), some (.agg ⟨[.int .i64 ((rd data1827 k_1832).often_), .slice A1844 ((rd data1827 k_1832).symbols_).length c1845]⟩), some (slp A1740 (Int.toNat k_1832 * 2)), some undef, some (slp A1740 (Int.toNat (w64 (k_1832 + (1 : Int))) * 2)), some undef]) [17, 0, 1, 2, 3, 4, 5, 6, 7, 8, 9, 10, 11, 12, 13, 14, 15, 16, 15, 0, 1, 5, 6, 7, 8, 9, 13, 14, 12, 10, 11] [] rfl rfl rfl trivial (fun a w hS => ?_) ho hcl hmust hA hst
            replace hS := hS.env2 (e' := [(0, .slice A1740 rw1868.length c1741), (10, .int .i64 i1775), (13, .int .i64 k_1832)]) ⟨(relk (u := .slice A1740 rw1826.length c1741) rfl (by rw [hz1871, hz1858])), rfl, rfl, trivial⟩
            refine blk_n (then_n ?_)
            refine wp_region_list ?_
            refine st1 hS (mv rfl) rfl fun a w hS => ?_
            refine st1 hS (bin rfl rfl rfl) rfl fun a w hS => ?_
            refine st1x (v := Value.int .i64) hS (asg rfl) rfl fun k_1873 a w hz hS => ?_
            have hM := lt_to hz hM; clear hz
            refine wpList_nil ?_
            refine then_n ?_
            exact hJ1874 _ _ ⟨rw1868, zs1869, f1866, k_1873, hS.to [0, 1] (by kernel_rfl) ⟨rfl, rfl, rfl, trivial⟩, hV1867, hr1870, hz1872, hM⟩
          · refine wp_exit ?_
            refine then_ex (then_ex (blk_same (then_n ?_)))
            refine wp_ret ?_
            refine then_ret ?_
            exact s_ret (rs := []) hS rfl rfl (hret rw1826 data1827 f1828 w hM hV1829 hr1830 hz1831 (hS.st.pick [0, 1] (by kernel_rfl)))
    · refine wp_skip ?_
      refine then_n ?_
      exact hJ1875 _ _ ⟨hS.to [0, 1] (by kernel_rfl) ⟨rfl, rfl, rfl, rfl, rfl, trivial⟩, hM⟩
  · intro a w hI
    obtain ⟨hS, hM⟩ := hI
    rw [slices_symMergeCmpFunc_huff_packet__b6e1_7e8b.j4] at hM
    refine seq_joinJ (fun a w => Ss 220 [] [(0, .slice A1740 rw1742.length c1741), (1, .int .i64 a_1746), (2, .int .i64 m1747), (3, .int .i64 b_1748), (4, fnv 33 [] [])] H [p1739, f1744] F a w ∧ (slices_symMergeCmpFunc_huff_packet__b6e1_7e8b.j8 K (slices_symMergeCmpFunc_huff_packet__b6e1_7e8b.r K d) data1738 a_1746 m1747 b_1748).wp kr kp) (fun J2000 hJ2000 => ?_) ?_
    · refine wp_seq ?_
      refine wp_region_list ?_
      refine st1 hS (mv rfl) rfl fun a w hS => ?_
      refine st1 hS (mv rfl) rfl fun a w hS => ?_
      refine st1 hS (bin rfl rfl rfl) rfl fun a w hS => ?_
      refine st1 hS (bin rfl rfl rfl) rfl fun a w hS => ?_
      refine wpList_nil ?_
      refine then_n ?_
      refine s_cond hS rfl hM (fun hb1876 hM => ?_) (fun hb1876 hM => ?_)
      · refine wp_seq ?_
        refine wp_region_list ?_
        refine st1 hS (mv rfl) rfl fun a w hS => ?_
        refine st1 hS (asg rfl) rfl fun a w hS => ?_
        refine wpList_nil ?_
        refine then_n ?_
        refine wp_seq ?_
        refine wp_region_list ?_
        refine st1 hS (mv rfl) rfl fun a w hS => ?_
        refine st1 hS (asg rfl) rfl fun a w hS => ?_
        refine wpList_nil ?_
        refine then_n ?_
        refine seq_joinJ (fun a w => ∃ (i1900 : Int), Ss 220 [] [(0, .slice A1740 rw1742.length c1741), (2, .int .i64 m1747), (14, .int .i64 i1900)] H [p1739, f1744] F a w ∧ (slices_symMergeCmpFunc_huff_packet__b6e1_7e8b.j6 K (slices_symMergeCmpFunc_huff_packet__b6e1_7e8b.r K d) data1738 m1747 i1900).wp kr kp) (fun J1901 hJ1901 => ?_) ?_
        · refine wp_block ?_
          refine s_loopJ (fun k1879 a w => ∃ (i1877 : Int) (j1878 : Int), Ss 220 [] [(0, .slice A1740 rw1742.length c1741), (2, .int .i64 m1747), (4, fnv 33 [] []), (14, .int .i64 i1877), (15, .int .i64 j1878)] H [p1739, f1744] F a w ∧ (slices_symMergeCmpFunc_huff_packet__b6e1_7e8b.l5 K (slices_symMergeCmpFunc_huff_packet__b6e1_7e8b.r K d) data1738 m1747 k1879 i1877 j1878).wp kr kp) K ?_ ?_ ?_
          · exact ⟨a_1746, m1747, hS.to [0, 1] (by kernel_rfl) ⟨rfl, rfl, rfl, rfl, rfl, trivial⟩, hM⟩
          · intro a w hI; obtain ⟨_, _, _, hM⟩ := hI; exact hM
          · intro k1879 a w hI J1899 hJ1899
            obtain ⟨i1877, j1878, hS, hM⟩ := hI
            rw [slices_symMergeCmpFunc_huff_packet__b6e1_7e8b.l5] at hM
            refine wp_seq ?_
            refine wp_seq ?_
            refine wp_region_list ?_
            refine st1 hS (mv rfl) rfl fun a w hS => ?_
            refine st1 hS (mv rfl) rfl fun a w hS => ?_
            refine st1 hS (bin rfl rfl rfl) rfl fun a w hS => ?_
            refine wpList_nil ?_
            refine then_n ?_
            refine s_cond hS rfl hM (fun hb1880 hM => ?_) (fun hb1880 hM => ?_)
            · refine wp_skip ?_
              refine then_n ?_
              refine wp_block ?_
              refine wp_seq ?_
              refine wp_region_list ?_
              refine st1 hS (mv rfl) rfl fun a w hS => ?_
              refine st1 hS (mv rfl) rfl fun a w hS => ?_
              refine st1 hS (bin rfl rfl rfl) rfl fun a w hS => ?_
              refine st1 hS (cvi rfl Try.runUnderlying3 Try.runUnderlying46) rfl fun a w hS => ?_
              refine st1 hS (shr rfl rfl rfl) rfl fun a w hS => ?_
              refine st1 hS (cvi rfl Try.runUnderlying46 Try.runUnderlying3) rfl fun a w hS => ?_
              refine st1x (v := Value.int .i64) hS (asg rfl) rfl fun h1881 a w hz hS => ?_
              have hM := lt_to hz hM; clear hz
              refine wpList_nil ?_
              refine then_n ?_
              refine wp_seq ?_
              obtain ⟨hk1883, hM⟩ := wp_chk hM
              obtain ⟨A1884, c1885, hw1888, hp1886, hc1887⟩ := hr1743.get hk1883
              obtain ⟨hk1890, hM⟩ := wp_chk hM
              obtain ⟨A1891, c1892, hw1895, hp1893, hc1894⟩ := hr1743.get hk1890
              refine draw_begin (vals := [some (fnv 33 [] []), some (.slice A1740 rw1742.length c1741), some (.int .i64 m1747), some (slp A1740 (Int.toNat m1747 * 2)), some (.agg ⟨[.int .i64 ((rd data1738 m1747).often_), .slice A1884 ((rd data1738 m1747).symbols_).length c1885]⟩), some (.slice A1740 rw1742.length c1741), some (.int .i64 h1881), some (slp A1740 (Int.toNat h1881 * 2)), some (.agg ⟨[.int .i64 ((rd data1738 h1881).often_), .slice A1891 ((rd data1738 h1881).symbols_).length c1892]⟩), none, none, none]) hS mixed rfl ?_
              intro l w ho hcl hA hst
              refine phase' (vals := [some (fnv 33 [] []), some (.slice A1740 rw1742.length c1741), some (.int .i64 m1747), some (slp A1740 (Int.toNat m1747 * 2)), some (.agg ⟨[.int .i64 ((rd data1738 m1747).often_), .slice A1884 ((rd data1738 m1747).symbols_).length c1885]⟩), some (.slice A1740 rw1742.length c1741), some (.int .i64 h1881), some (slp A1740 (Int.toNat h1881 * 2)), some (.agg ⟨[.int .i64 ((rd data1738 h1881).often_), .slice A1891 ((rd data1738 h1881).symbols_).length c1892]⟩), none, none, none]) 9 [] [0, 1, 2, 3, 4, 5, 6, 7, 8] rfl rfl rfl rfl (by exact ⟨nR rfl rfl rfl rfl rfl (by exact ovE (mv rfl) rfl), nR rfl rfl rfl rfl rfl (by exact ovE (mv rfl) rfl), nR rfl rfl rfl rfl rfl (by exact ovE (mv rfl) rfl), nR rfl rfl rfl rfl rfl (by exact ovE (ixV rfl rfl Try.runUnderlying68 Try.sizeOf70 (hV1745.rd (i := 1) rfl) Row.len rfl (hr1743.inb hk1883)) rfl), nR rfl rfl rfl rfl rfl (by exact ovE (ovE (ldVA rfl (hV1745.rd (i := 1) rfl) Row.len (hr1743.inb hk1883) Try.isAgg70 Try.sizeOf70 rfl) (congrArg (fun l => Value.agg ⟨l⟩) hw1888)) rfl), nR rfl rfl rfl rfl rfl (by exact ovE (mv rfl) rfl), nR rfl rfl rfl rfl rfl (by exact ovE (mv rfl) rfl), nR rfl rfl rfl rfl rfl (by exact ovE (ixV rfl rfl Try.runUnderlying68 Try.sizeOf70 (hV1745.rd (i := 1) rfl) Row.len rfl (hr1743.inb hk1890)) rfl), nR rfl rfl rfl rfl rfl (by exact ovE (ovE (ldVA rfl (hV1745.rd (i := 1) rfl) Row.len (hr1743.inb hk1890) Try.isAgg70 Try.sizeOf70 rfl) (congrArg (fun l => Value.agg ⟨l⟩) hw1895)) rfl), trivial⟩) (fun D l a w ho hcl hav hpre hm hE hk hA hst => ?_) ho hcl (fun j hj => (List.not_mem_nil hj).elim) (fun m hm => (List.not_mem_nil hm).elim) List.not_mem_nil hA hst
              have hS := (Ss.mk hE hst).env2 (e' := [(92, fnv 33 [] []), (96, .agg ⟨[.int .i64 ((rd data1738 m1747).often_), .slice A1884 ((rd data1738 m1747).symbols_).length c1885]⟩), (100, .agg ⟨[.int .i64 ((rd data1738 h1881).often_), .slice A1891 ((rd data1738 h1881).symbols_).length c1892]⟩)]) ⟨rfl, rfl, rfl, trivial⟩
              refine op_of_nth rfl ?_
              refine s_callV hS rfl rfl Try.call33 (huff_Lengths_2_c hG K (T_huff_packet.mk ((rd data1738 m1747).often_) ((rd data1738 m1747).symbols_)) (T_huff_packet.mk ((rd data1738 h1881).often_) ((rd data1738 h1881).symbols_)) A1884 c1885 A1891 c1892 (hp1886.rdF (i := 0) rfl) hc1887 (hp1893.rdF (i := 0) rfl) hc1894 (hS.st.part 0 [0, 1] (by kernel_rfl)) (wp_bind hM) (fun x1896 w hM  hst => s_back hS.ev hst.appF rfl fun hS => ?_))
              replace hS : Ss _ _ _ H [p1739, f1744] F _ _ := hS
              refine wpList_nil (then_n ?_)
              have hcl2 := hcl.cons (k := 9) (nth_get rfl) hpre
              have hmust := must_cons (k := 9) hm (chain (k := 9) hcl (nth_get rfl) hpre [(0, 9), (4, 9), (8, 9), (3, 4), (7, 8), (1, 3), (2, 3), (5, 7), (6, 7)] [] rfl (fun _ h => absurd h List.not_mem_nil))
              replace hst := hS.st
              have hav2 := hav.cons (vals' := [some (fnv 33 [] []), some (.slice A1740 rw1742.length c1741), some (.int .i64 m1747), some (slp A1740 (Int.toNat m1747 * 2)), some (.agg ⟨[.int .i64 ((rd data1738 m1747).often_), .slice A1884 ((rd data1738 m1747).symbols_).length c1885]⟩), some (.slice A1740 rw1742.length c1741), some (.int .i64 h1881), some (slp A1740 (Int.toNat h1881 * 2)), some (.agg ⟨[.int .i64 ((rd data1738 h1881).often_), .slice A1891 ((rd data1738 h1881).symbols_).length c1892]⟩), some (.int .i64 x1896), some (.bool (decide (x1896 < (0 : Int)))), some (.bool (!(decide (x1896 < (0 : Int)))))]) (k := 9) ⟨rfl, rfl, rfl, rfl, rfl, rfl, rfl, rfl, rfl, trivial⟩ rfl
              replace hA := (hA.next hav (subV.get (l' := [some (fnv 33 [] []), some (.slice A1740 rw1742.length c1741), some (.int .i64 m1747), some (slp A1740 (Int.toNat m1747 * 2)), some (.agg ⟨[.int .i64 ((rd data1738 m1747).often_), .slice A1884 ((rd data1738 m1747).symbols_).length c1885]⟩), some (.slice A1740 rw1742.length c1741), some (.int .i64 h1881), some (slp A1740 (Int.toNat h1881 * 2)), some (.agg ⟨[.int .i64 ((rd data1738 h1881).often_), .slice A1891 ((rd data1738 h1881).symbols_).length c1892]⟩), some (.int .i64 x1896), some (.bool (decide (x1896 < (0 : Int)))), some (.bool (!(decide (x1896 < (0 : Int)))))]) ⟨rfl, rfl, rfl, rfl, rfl, rfl, rfl, rfl, rfl, trivial⟩)).step rfl (nth_get rfl) hk rfl rfl rfl
              clear hm hav
              replace hcl := hcl2
              refine phaseE (vals := [some (fnv 33 [] []), some (.slice A1740 rw1742.length c1741), some (.int .i64 m1747), some (slp A1740 (Int.toNat m1747 * 2)), some (.agg ⟨[.int .i64 ((rd data1738 m1747).often_), .slice A1884 ((rd data1738 m1747).symbols_).length c1885]⟩), some (.slice A1740 rw1742.length c1741), some (.int .i64 h1881), some (slp A1740 (Int.toNat h1881 * 2)), some (.agg ⟨[.int .i64 ((rd data1738 h1881).often_), .slice A1891 ((rd data1738 h1881).symbols_).length c1892]⟩), some (.int .i64 x1896), some (.bool (decide (x1896 < (0 : Int)))), some (.bool (!(decide (x1896 < (0 : Int)))))]) [9, 0, 4, 8, 3, 7, 1, 2, 5, 6] [10, 11] rfl rfl rfl (by exact ⟨nR rfl rfl rfl rfl rfl (by exact ovE (bin rfl rfl rfl) rfl), nR rfl rfl rfl rfl rfl (by exact ovE (un rfl rfl) rfl), trivial⟩) (fun a w hS => ?_) ho hcl hmust hA hst
              replace hS := hS.env2 (e' := [(0, .slice A1740 rw1742.length c1741), (2, .int .i64 m1747), (4, fnv 33 [] []), (14, .int .i64 i1877), (15, .int .i64 j1878), (16, .int .i64 h1881), (103, .bool (!(decide (x1896 < (0 : Int)))))]) ⟨rfl, rfl, rfl, rfl, rfl, rfl, rfl, trivial⟩
              refine then_n ?_
              refine s_cond hS rfl hM (fun hb1897 hM => ?_) (fun hb1897 hM => ?_)
              · refine wp_region_list ?_
                refine st1 hS (mv rfl) rfl fun a w hS => ?_
                refine st1 hS (bin rfl rfl rfl) rfl fun a w hS => ?_
                refine st1x (v := Value.int .i64) hS (asg rfl) rfl fun i1898 a w hz hS => ?_
                have hM := lt_to hz hM; clear hz
                refine wpList_nil ?_
                refine blk_n (then_n ?_)
                exact hJ1899 _ _ ⟨i1898, j1878, hS.to [0, 1] (by kernel_rfl) ⟨rfl, rfl, rfl, rfl, rfl, trivial⟩, hM⟩
              · refine wp_region_list ?_
                refine st1 hS (mv rfl) rfl fun a w hS => ?_
                refine st1 hS (asg rfl) rfl fun a w hS => ?_
                refine wpList_nil ?_
                refine blk_n (then_n ?_)
                exact hJ1899 _ _ ⟨i1877, h1881, hS.to [0, 1] (by kernel_rfl) ⟨rfl, rfl, rfl, rfl, rfl, trivial⟩, hM⟩
            · refine wp_exit ?_
              refine then_ex (then_ex (blk_same (then_n ?_)))
              exact hJ1901 _ _ ⟨i1877, hS.to [0, 1] (by kernel_rfl) ⟨rfl, rfl, rfl, trivial⟩, hM⟩
        · intro a w hI
          obtain ⟨i1900, hS, hM⟩ := hI
          rw [slices_symMergeCmpFunc_huff_packet__b6e1_7e8b.j6] at hM
          refine wp_seq ?_
          refine wp_seq ?_
          refine wp_region_list ?_
          refine st1 hS (mv rfl) rfl fun a w hS => ?_
          refine st1 hS (asg rfl) rfl fun a w hS => ?_
          refine wpList_nil ?_
          refine then_n ?_
          refine wp_block ?_
          refine s_loopJ (fun k1958 a w => ∃ (rw1951 : List (Row 2)) (data1952 : (List T_huff_packet)) (f1953 : Frag) (k_1957 : Int), Ss 220 [] [(0, .slice A1740 rw1951.length c1741), (14, .int .i64 i1900), (17, .int .i64 k_1957)] H [p1739, f1953] F a w ∧ (Vec 70 (Row.v (sz := 2)) 2 A1740 rw1951 c1741 f1953) ∧ (RelL (R_huff_packet p1739) data1952 rw1951) ∧ (rw1951.length = rw1742.length) ∧ (slices_symMergeCmpFunc_huff_packet__b6e1_7e8b.l7 K (slices_symMergeCmpFunc_huff_packet__b6e1_7e8b.r K d) i1900 k1958 data1952 k_1957).wp kr kp) K ?_ ?_ ?_
          · exact ⟨rw1742, data1738, f1744, m1747, hS.to [0, 1] (by kernel_rfl) ⟨rfl, rfl, rfl, trivial⟩, hV1745, hr1743, hz1750, hM⟩
          · intro a w hI; obtain ⟨_, _, _, _, _, _, _, _, hM⟩ := hI; exact hM
          · intro k1958 a w hI J1999 hJ1999
            obtain ⟨rw1951, data1952, f1953, k_1957, hS, hV1954, hr1955, hz1956, hM⟩ := hI
            rw [slices_symMergeCmpFunc_huff_packet__b6e1_7e8b.l7] at hM
            refine wp_seq ?_
            refine wp_seq ?_
            refine wp_region_list ?_
            refine st1 hS (mv rfl) rfl fun a w hS => ?_
            refine st1 hS (mv rfl) rfl fun a w hS => ?_
            refine st1 hS (bin rfl rfl rfl) rfl fun a w hS => ?_
            refine wpList_nil ?_
            refine then_n ?_
            refine s_cond hS rfl hM (fun hb1959 hM => ?_) (fun hb1959 hM => ?_)
            · refine wp_skip ?_
              refine then_n ?_
              refine wp_seq ?_
              refine wp_block ?_
              obtain ⟨hk1961, hM⟩ := wp_chk hM
              obtain ⟨A1962, c1963, hw1966, hp1964, hc1965⟩ := hr1955.get hk1961
              obtain ⟨hk1968, hM⟩ := wp_chk hM
              obtain ⟨A1969, c1970, hw1973, hp1971, hc1972⟩ := hr1955.get hk1968
              refine draw_begin (vals := [some (.slice A1740 rw1951.length c1741), some (.int .i64 k_1957), some (.slice A1740 rw1951.length c1741), some (.int .i64 k_1957), some (.int .i64 (w64 (k_1957 - (1 : Int)))), some (.slice A1740 rw1951.length c1741), some (.int .i64 k_1957), some (.int .i64 (w64 (k_1957 - (1 : Int)))), some (slp A1740 (Int.toNat (w64 (k_1957 - (1 : Int))) * 2)), some (.agg ⟨[.int .i64 ((rd data1952 (w64 (k_1957 - (1 : Int)))).often_), .slice A1962 ((rd data1952 (w64 (k_1957 - (1 : Int)))).symbols_).length c1963]⟩), some (.slice A1740 rw1951.length c1741), some (.int .i64 k_1957), some (slp A1740 (Int.toNat k_1957 * 2)), some (.agg ⟨[.int .i64 ((rd data1952 k_1957).often_), .slice A1969 ((rd data1952 k_1957).symbols_).length c1970]⟩), some (slp A1740 (Int.toNat k_1957 * 2)), none, none, none]) hS mixed rfl ?_
              intro l w ho hcl hA hst
              refine phase' (vals := [some (.slice A1740 rw1951.length c1741), some (.int .i64 k_1957), some (.slice A1740 rw1951.length c1741), some (.int .i64 k_1957), some (.int .i64 (w64 (k_1957 - (1 : Int)))), some (.slice A1740 rw1951.length c1741), some (.int .i64 k_1957), some (.int .i64 (w64 (k_1957 - (1 : Int)))), some (slp A1740 (Int.toNat (w64 (k_1957 - (1 : Int))) * 2)), some (.agg ⟨[.int .i64 ((rd data1952 (w64 (k_1957 - (1 : Int)))).often_), .slice A1962 ((rd data1952 (w64 (k_1957 - (1 : Int)))).symbols_).length c1963]⟩), some (.slice A1740 rw1951.length c1741), some (.int .i64 k_1957), some (slp A1740 (Int.toNat k_1957 * 2)), some (.agg ⟨[.int .i64 ((rd data1952 k_1957).often_), .slice A1969 ((rd data1952 k_1957).symbols_).length c1970]⟩), some (slp A1740 (Int.toNat k_1957 * 2)), none, none, none]) 15 [] [0, 1, 2, 3, 4, 5, 6, 7, 8, 9, 10, 11, 12, 13, 14] rfl rfl rfl rfl (by exact ⟨nR rfl rfl rfl rfl rfl (by exact ovE (mv rfl) rfl), nR rfl rfl rfl rfl rfl (by exact ovE (mv rfl) rfl), nR rfl rfl rfl rfl rfl (by exact ovE (mv rfl) rfl), nR rfl rfl rfl rfl rfl (by exact ovE (mv rfl) rfl), nR rfl rfl rfl rfl rfl (by exact ovE (bin rfl rfl rfl) rfl), nR rfl rfl rfl rfl rfl (by exact ovE (mv rfl) rfl), nR rfl rfl rfl rfl rfl (by exact ovE (mv rfl) rfl), nR rfl rfl rfl rfl rfl (by exact ovE (bin rfl rfl rfl) rfl), nR rfl rfl rfl rfl rfl (by exact ovE (ixV rfl rfl Try.runUnderlying68 Try.sizeOf70 (hV1954.rd (i := 1) rfl) Row.len rfl (hr1955.inb hk1961)) rfl), nR rfl rfl rfl rfl rfl (by exact ovE (ovE (ldVA rfl (hV1954.rd (i := 1) rfl) Row.len (hr1955.inb hk1961) Try.isAgg70 Try.sizeOf70 rfl) (congrArg (fun l => Value.agg ⟨l⟩) hw1966)) rfl), nR rfl rfl rfl rfl rfl (by exact ovE (mv rfl) rfl), nR rfl rfl rfl rfl rfl (by exact ovE (mv rfl) rfl), nR rfl rfl rfl rfl rfl (by exact ovE (ixV rfl rfl Try.runUnderlying68 Try.sizeOf70 (hV1954.rd (i := 1) rfl) Row.len rfl (hr1955.inb hk1968)) rfl), nR rfl rfl rfl rfl rfl (by exact ovE (ovE (ldVA rfl (hV1954.rd (i := 1) rfl) Row.len (hr1955.inb hk1968) Try.isAgg70 Try.sizeOf70 rfl) (congrArg (fun l => Value.agg ⟨l⟩) hw1973)) rfl), nR rfl rfl rfl rfl rfl (by exact ovE (ixV rfl rfl Try.runUnderlying68 Try.sizeOf70 (hV1954.rd (i := 1) rfl) Row.len rfl (hr1955.inb hk1968)) rfl), trivial⟩) (fun D l a w ho hcl hav hpre hm hE hk hA hst => ?_) ho hcl (fun j hj => (List.not_mem_nil hj).elim) (fun m hm => (List.not_mem_nil hm).elim) List.not_mem_nil hA hst
              have hS := (Ss.mk hE hst).env2 (e' := [(122, .agg ⟨[.int .i64 ((rd data1952 (w64 (k_1957 - (1 : Int)))).often_), .slice A1962 ((rd data1952 (w64 (k_1957 - (1 : Int)))).symbols_).length c1963]⟩), (127, slp A1740 (Int.toNat k_1957 * 2))]) ⟨rfl, rfl, trivial⟩
              refine op_of_nth rfl ?_
              refine stVR 1 (⟨[.int .i64 ((rd data1952 (w64 (k_1957 - (1 : Int)))).often_), .slice A1962 ((rd data1952 (w64 (k_1957 - (1 : Int)))).symbols_).length c1963], by simp, by simp [Value.oneCell']⟩ : Row 2) hS rfl rfl hV1954 rfl Try.sizeOf70 rfl (hr1955.inb hk1968) fun rw1980 w f1978 hz hV1979 hS => ?_
              obtain ⟨zs1981, hzm⟩ : ∃ z, z = data1952.set (Int.toNat k_1957) (T_huff_packet.mk ((rd data1952 (w64 (k_1957 - (1 : Int)))).often_) ((rd data1952 (w64 (k_1957 - (1 : Int)))).symbols_)) := ⟨_, rfl⟩
              replace hM := lt_to hzm hM
              have hr1982 := RelL.set (x := (T_huff_packet.mk ((rd data1952 (w64 (k_1957 - (1 : Int)))).often_) ((rd data1952 (w64 (k_1957 - (1 : Int)))).symbols_))) (r := (⟨[.int .i64 ((rd data1952 (w64 (k_1957 - (1 : Int)))).often_), .slice A1962 ((rd data1952 (w64 (k_1957 - (1 : Int)))).symbols_).length c1963], by simp, by simp [Value.oneCell']⟩ : Row 2)) (Int.toNat k_1957) hr1955 (show R_huff_packet p1739 _ _ from ⟨A1962, c1963, rfl, hp1964, hc1965⟩)
              have hz1983 : rw1980.length = rw1951.length := by rw [hz]; exact List.length_set ..
              rw [← hz, ← hzm] at hr1982; clear hz hzm
              have hz1984 := Eq.trans hz1983 hz1956
              refine wpList_nil (then_n ?_)
              have hcl2 := hcl.cons (k := 15) (nth_get rfl) hpre
              have hmust := must_cons (k := 15) hm (chain (k := 15) hcl (nth_get rfl) hpre [(0, 15), (1, 15), (5, 15), (6, 15), (7, 15), (8, 15), (9, 15), (13, 15), (14, 15), (12, 13), (10, 12), (11, 12)] [] rfl (fun _ h => absurd h List.not_mem_nil))
              replace hst := hS.st
              obtain ⟨hk1986, hM⟩ := wp_chk hM
              have hav2 := hav.cons (vals' := [some (.slice A1740 rw1951.length c1741), some (.int .i64 k_1957), some (.slice A1740 rw1951.length c1741), some (.int .i64 k_1957), some (.int .i64 (w64 (k_1957 - (1 : Int)))), some (.slice A1740 rw1951.length c1741), some (.int .i64 k_1957), some (.int .i64 (w64 (k_1957 - (1 : Int)))), some (slp A1740 (Int.toNat (w64 (k_1957 - (1 : Int))) * 2)), some (.agg ⟨[.int .i64 ((rd data1952 (w64 (k_1957 - (1 : Int)))).often_), .slice A1962 ((rd data1952 (w64 (k_1957 - (1 : Int)))).symbols_).length c1963]⟩), some (.slice A1740 rw1951.length c1741), some (.int .i64 k_1957), some (slp A1740 (Int.toNat k_1957 * 2)), some (.agg ⟨[.int .i64 ((rd data1952 k_1957).often_), .slice A1969 ((rd data1952 k_1957).symbols_).length c1970]⟩), some (slp A1740 (Int.toNat k_1957 * 2)), some undef, some (slp A1740 (Int.toNat (w64 (k_1957 - (1 : Int))) * 2)), none]) (k := 15) ⟨rfl, rfl, rfl, rfl, rfl, rfl, rfl, rfl, rfl, rfl, rfl, rfl, rfl, rfl, rfl, trivial⟩ rfl
              replace hA := (hA.next hav (subV.get (l' := [some (.slice A1740 rw1951.length c1741), some (.int .i64 k_1957), some (.slice A1740 rw1951.length c1741), some (.int .i64 k_1957), some (.int .i64 (w64 (k_1957 - (1 : Int)))), some (.slice A1740 rw1951.length c1741), some (.int .i64 k_1957), some (.int .i64 (w64 (k_1957 - (1 : Int)))), some (slp A1740 (Int.toNat (w64 (k_1957 - (1 : Int))) * 2)), some (.agg ⟨[.int .i64 ((rd data1952 (w64 (k_1957 - (1 : Int)))).often_), .slice A1962 ((rd data1952 (w64 (k_1957 - (1 : Int)))).symbols_).length c1963]⟩), some (.slice A1740 rw1951.length c1741), some (.int .i64 k_1957), some (slp A1740 (Int.toNat k_1957 * 2)), some (.agg ⟨[.int .i64 ((rd data1952 k_1957).often_), .slice A1969 ((rd data1952 k_1957).symbols_).length c1970]⟩), some (slp A1740 (Int.toNat k_1957 * 2)), some undef, some (slp A1740 (Int.toNat (w64 (k_1957 - (1 : Int))) * 2)), none]) ⟨rfl, rfl, rfl, rfl, rfl, rfl, rfl, rfl, rfl, rfl, rfl, rfl, rfl, rfl, rfl, trivial⟩)).stepN (i := 15) (nth_get rfl) rfl
              clear hm hav
              replace hcl := hcl2
              refine phase' (vals := [some (.slice A1740 rw1951.length c1741), some (.int .i64 k_1957), some (.slice A1740 rw1951.length c1741), some (.int .i64 k_1957), some (.int .i64 (w64 (k_1957 - (1 : Int)))), some (.slice A1740 rw1951.length c1741), some (.int .i64 k_1957), some (.int .i64 (w64 (k_1957 - (1 : Int)))), some (slp A1740 (Int.toNat (w64 (k_1957 - (1 : Int))) * 2)), some (.agg ⟨[.int .i64 ((rd data1952 (w64 (k_1957 - (1 : Int)))).often_), .slice A1962 ((rd data1952 (w64 (k_1957 - (1 : Int)))).symbols_).length c1963]⟩), some (.slice A1740 rw1951.length c1741), some (.int .i64 k_1957), some (slp A1740 (Int.toNat k_1957 * 2)), some (.agg ⟨[.int .i64 ((rd data1952 k_1957).often_), .slice A1969 ((rd data1952 k_1957).symbols_).length c1970]⟩), some (slp A1740 (Int.toNat k_1957 * 2)), some undef, some (slp A1740 (Int.toNat (w64 (k_1957 - (1 : Int))) * 2)), none]) 17 [15, 0, 1, 5, 6, 7, 8, 9, 13, 14, 12, 10, 11] [2, 3, 4, 16] rfl rfl rfl rfl (by exact ⟨nR rfl rfl rfl rfl rfl (by exact ovE (mv rfl) rfl), nR rfl rfl rfl rfl rfl (by exact ovE (mv rfl) rfl), nR rfl rfl rfl rfl rfl (by exact ovE (bin rfl rfl rfl) rfl), nR rfl rfl rfl rfl rfl (by exact ovE (ixV (lenx hz1983 rfl) rfl Try.runUnderlying68 Try.sizeOf70 (hV1979.rd (i := 1) rfl) Row.len rfl (hr1982.inb hk1986)) rfl), trivial⟩) (fun D l a w ho hcl hav hpre hm hE hk hA hst => ?_) ho hcl hav2 hmust (hav2.notin rfl) hA hst
              have hS := (Ss.mk hE hst).env2 (e' := [(126, .agg ⟨[.int .i64 ((rd data1952 k_1957).often_), .slice A1969 ((rd data1952 k_1957).symbols_).length c1970]⟩), (128, slp A1740 (Int.toNat (w64 (k_1957 - (1 : Int))) * 2))]) ⟨rfl, rfl, trivial⟩
              refine op_of_nth rfl ?_
              refine stVR 1 (⟨[.int .i64 ((rd data1952 k_1957).often_), .slice A1969 ((rd data1952 k_1957).symbols_).length c1970], by simp, by simp [Value.oneCell']⟩ : Row 2) hS rfl rfl hV1979 rfl Try.sizeOf70 rfl (hr1982.inb hk1986) fun rw1993 w f1991 hz hV1992 hS => ?_
              obtain ⟨zs1994, hzm⟩ : ∃ z, z = zs1981.set (Int.toNat (w64 (k_1957 - (1 : Int)))) (T_huff_packet.mk ((rd data1952 k_1957).often_) ((rd data1952 k_1957).symbols_)) := ⟨_, rfl⟩
              replace hM := lt_to hzm hM
              have hr1995 := RelL.set (x := (T_huff_packet.mk ((rd data1952 k_1957).often_) ((rd data1952 k_1957).symbols_))) (r := (⟨[.int .i64 ((rd data1952 k_1957).often_), .slice A1969 ((rd data1952 k_1957).symbols_).length c1970], by simp, by simp [Value.oneCell']⟩ : Row 2)) (Int.toNat (w64 (k_1957 - (1 : Int)))) hr1982 (show R_huff_packet p1739 _ _ from ⟨A1969, c1970, rfl, hp1971, hc1972⟩)
              have hz1996 : rw1993.length = rw1980.length := by rw [hz]; exact List.length_set ..
              rw [← hz, ← hzm] at hr1995; clear hz hzm
              have hz1997 := Eq.trans hz1996 hz1984
              refine wpList_nil (then_n ?_)
              have hcl2 := hcl.cons (k := 17) (nth_get rfl) hpre
              have hmust := must_cons (k := 17) hm (chain (k := 17) hcl (nth_get rfl) hpre [(0, 17), (1, 17), (2, 17), (3, 17), (4, 17), (5, 17), (6, 17), (7, 17), (8, 17), (9, 17), (10, 17), (11, 17), (12, 17), (13, 17), (14, 17), (15, 17), (16, 17)] [] rfl (fun _ h => absurd h List.not_mem_nil))
              replace hst := hS.st
              have hav2 := hav.cons (vals' := [some (.slice A1740 rw1951.length c1741), some (.int .i64 k_1957), some (.slice A1740 rw1951.length c1741), some (.int .i64 k_1957), some (.int .i64 (w64 (k_1957 - (1 : Int)))), some (.slice A1740 rw1951.length c1741), some (.int .i64 k_1957), some (.int .i64 (w64 (k_1957 - (1 : Int)))), some (slp A1740 (Int.toNat (w64 (k_1957 - (1 : Int))) * 2)), some (.agg ⟨[.int .i64 ((rd data1952 (w64 (k_1957 - (1 : Int)))).often_), .slice A1962 ((rd data1952 (w64 (k_1957 - (1 : Int)))).symbols_).length c1963]⟩), some (.slice A1740 rw1951.length c1741), some (.int .i64 k_1957), some (slp A1740 (Int.toNat k_1957 * 2)), some (.agg ⟨[.int .i64 ((rd data1952 k_1957).often_), .slice A1969 ((rd data1952 k_1957).symbols_).length c1970]⟩), some (slp A1740 (Int.toNat k_1957 * 2)), some undef, some (slp A1740 (Int.toNat (w64 (k_1957 - (1 : Int))) * 2)), some undef]) (k := 17) ⟨rfl, rfl, rfl, rfl, rfl, rfl, rfl, rfl, rfl, rfl, rfl, rfl, rfl, rfl, rfl, rfl, rfl, trivial⟩ rfl
              replace hA := (hA.next hav (subV.get (l' := [some (.slice A1740 rw1951.length c1741), some (.int .i64 k_1957), some (.slice A1740 rw1951.length c1741), some (.int .i64 k_1957), some (.int .i64 (w64 (k_1957 - (1 : Int)))), some (.slice A1740 rw1951.length c1741), some (.int .i64 k_1957), some (.int .i64 (w64 (k_1957 - (1 : Int)))), some (slp A1740 (Int.toNat (w64 (k_1957 - (1 : Int))) * 2)), some (.agg ⟨[.int .i64 ((rd data1952 (w64 (k_1957 - (1 : Int)))).often_), .slice A1962 ((rd data1952 (w64 (k_1957 - (1 : Int)))).symbols_).length c1963]⟩), some (.slice A1740 rw1951.length c1741), some (.int .i64 k_1957), some (slp A1740 (Int.toNat k_1957 * 2)), some (.agg ⟨[.int .i64 ((rd data1952 k_1957).often_), .slice A1969 ((rd data1952 k_1957).symbols_).length c1970]⟩), some (slp A1740 (Int.toNat k_1957 * 2)), some undef, some (slp A1740 (Int.toNat (w64 (k_1957 - (1 : Int))) * 2)), some undef]) ⟨rfl, rfl, rfl, rfl, rfl, rfl, rfl, rfl, rfl, rfl, rfl, rfl, rfl, rfl, rfl, rfl, rfl, trivial⟩)).stepN (i := 17) (nth_get rfl) rfl
              clear hm hav
              replace hcl := hcl2
              refine phaseE (vals := [some (.slice A1740 rw1951.length c1741), some (.int .i64 k_1957), some (.slice A1740 rw1951.length c1741), some (.int .i64 k_1957), some (.int .i64 (w64 (k_1957 - (1 : Int)))), some (.slice A1740 rw1951.length c1741), some (.int .i64 k_1957), some (.int .i64 (w64 (k_1957 - (1 : Int)))), some (slp A1740 (Int.toNat (w64 (k_1957 - (1 : Int))) * 2)), some (.agg ⟨[.int .i64 ((rd data1952 (w64 (k_1957 - (1 : Int)))).often_), .slice A1962 ((rd data1952 (w64 (k_1957 - (1 : Int)))).symbols_).length c1963]⟩), some (.slice A1740 rw1951.length c1741), some (.int .i64 k_1957), some (slp A1740 (Int.toNat k_1957 * 2)), some (.agg ⟨[.int .i64 ((rd data1952 k_1957).often_), .slice A1969 ((rd data1952 k_1957).symbols_).length c1970]⟩), some (slp A1740 (Int.toNat k_1957 * 2)), some undef, some (slp A1740 (Int.toNat (w64 (k_1957 - (1 : Int))) * 2)), some undef]) [17, 0, 1, 2, 3, 4, 5, 6, 7, 8, 9, 10, 11, 12, 13, 14, 15, 16, 15, 0, 1, 5, 6, 7, 8, 9, 13, 14, 12, 10, 11] [] rfl rfl rfl trivial (fun a w hS => ?_) ho hcl hmust hA hst
              replace hS := hS.env2 (e' := [(0, .slice A1740 rw1993.length c1741), (14, .int .i64 i1900), (17, .int .i64 k_1957)]) ⟨(relk (u := .slice A1740 rw1951.length c1741) rfl (by rw [hz1996, hz1983])), rfl, rfl, trivial⟩
              refine blk_n (then_n ?_)
              refine wp_region_list ?_
              refine st1 hS (mv rfl) rfl fun a w hS => ?_
              refine st1 hS (bin rfl rfl rfl) rfl fun a w hS => ?_
              refine st1x (v := Value.int .i64) hS (asg rfl) rfl fun k_1998 a w hz hS => ?_
              have hM := lt_to hz hM; clear hz
              refine wpList_nil ?_
              refine then_n ?_
              exact hJ1999 _ _ ⟨rw1993, zs1994, f1991, k_1998, hS.to [0, 1] (by kernel_rfl) ⟨rfl, rfl, rfl, trivial⟩, hV1992, hr1995, hz1997, hM⟩
            · refine wp_exit ?_
              refine then_ex (then_ex (blk_same (then_n ?_)))
              refine wp_ret ?_
              refine then_ret ?_
              exact s_ret (rs := []) hS rfl rfl (hret rw1951 data1952 f1953 w hM hV1954 hr1955 hz1956 (hS.st.pick [0, 1] (by kernel_rfl)))
      · refine wp_skip ?_
        refine then_n ?_
        exact hJ2000 _ _ ⟨hS.to [0, 1] (by kernel_rfl) ⟨rfl, rfl, rfl, rfl, rfl, trivial⟩, hM⟩
    · intro a w hI
      obtain ⟨hS, hM⟩ := hI
      rw [slices_symMergeCmpFunc_huff_packet__b6e1_7e8b.j8] at hM
      refine wp_seq ?_
      refine wp_region_list ?_
      refine st1 hS (mv rfl) rfl fun a w hS => ?_
      refine st1 hS (mv rfl) rfl fun a w hS => ?_
      refine st1 hS (bin rfl rfl rfl) rfl fun a w hS => ?_
      refine st1 hS (cvi rfl Try.runUnderlying3 Try.runUnderlying46) rfl fun a w hS => ?_
      refine st1 hS (shr rfl rfl rfl) rfl fun a w hS => ?_
      refine st1 hS (cvi rfl Try.runUnderlying46 Try.runUnderlying3) rfl fun a w hS => ?_
      refine st1x (v := Value.int .i64) hS (asg rfl) rfl fun mid2001 a w hz hS => ?_
      have hM := lt_to hz hM; clear hz
      refine wpList_nil ?_
      refine then_n ?_
      refine wp_seq ?_
      refine wp_region_list ?_
      refine st1 hS (mv rfl) rfl fun a w hS => ?_
      refine st1 hS (mv rfl) rfl fun a w hS => ?_
      refine st1 hS (bin rfl rfl rfl) rfl fun a w hS => ?_
      refine st1x (v := Value.int .i64) hS (asg rfl) rfl fun n_2002 a w hz hS => ?_
      have hM := lt_to hz hM; clear hz
      refine wpList_nil ?_
      refine then_n ?_
      refine wp_seq ?_
      refine wp_region_list ?_
      refine st1 hS (asg rfl) rfl fun a w hS => ?_
      refine st1 hS (asg rfl) rfl fun a w hS => ?_
      refine wpList_nil ?_
      refine then_n ?_
      refine seq_joinJ (fun a w => ∃ (start2005 : Int) (r2006 : Int), Ss 220 [] [(0, .slice A1740 rw1742.length c1741), (1, .int .i64 a_1746), (2, .int .i64 m1747), (3, .int .i64 b_1748), (4, fnv 33 [] []), (18, .int .i64 mid2001), (19, .int .i64 n_2002), (20, .int .i64 start2005), (21, .int .i64 r2006)] H [p1739, f1744] F a w ∧ (slices_symMergeCmpFunc_huff_packet__b6e1_7e8b.j9 K (slices_symMergeCmpFunc_huff_packet__b6e1_7e8b.r K d) data1738 a_1746 m1747 b_1748 mid2001 n_2002 start2005 r2006).wp kr kp) (fun J2007 hJ2007 => ?_) ?_
      · refine wp_seq ?_
        refine wp_region_list ?_
        refine st1 hS (mv rfl) rfl fun a w hS => ?_
        refine st1 hS (mv rfl) rfl fun a w hS => ?_
        refine st1 hS (bin rfl rfl rfl) rfl fun a w hS => ?_
        refine wpList_nil ?_
        refine then_n ?_
        refine s_cond hS rfl hM (fun hb2003 hM => ?_) (fun hb2003 hM => ?_)
        · refine wp_seq ?_
          refine wp_region_list ?_
          refine st1 hS (mv rfl) rfl fun a w hS => ?_
          refine st1 hS (mv rfl) rfl fun a w hS => ?_
          refine st1 hS (bin rfl rfl rfl) rfl fun a w hS => ?_
          refine st1x (v := Value.int .i64) hS (asg rfl) rfl fun start2004 a w hz hS => ?_
          have hM := lt_to hz hM; clear hz
          refine wpList_nil ?_
          refine then_n ?_
          refine wp_region_list ?_
          refine st1 hS (mv rfl) rfl fun a w hS => ?_
          refine st1 hS (asg rfl) rfl fun a w hS => ?_
          refine wpList_nil ?_
          refine then_n ?_
          exact hJ2007 _ _ ⟨start2004, mid2001, hS.to [0, 1] (by kernel_rfl) ⟨rfl, rfl, rfl, rfl, rfl, rfl, rfl, rfl, rfl, trivial⟩, hM⟩
        · refine wp_seq ?_
          refine wp_region_list ?_
          refine st1 hS (mv rfl) rfl fun a w hS => ?_
          refine st1 hS (asg rfl) rfl fun a w hS => ?_
          refine wpList_nil ?_
          refine then_n ?_
          refine wp_region_list ?_
          refine st1 hS (mv rfl) rfl fun a w hS => ?_
          refine st1 hS (asg rfl) rfl fun a w hS => ?_
          refine wpList_nil ?_
          refine then_n ?_
          exact hJ2007 _ _ ⟨a_1746, m1747, hS.to [0, 1] (by kernel_rfl) ⟨rfl, rfl, rfl, rfl, rfl, rfl, rfl, rfl, rfl, trivial⟩, hM⟩
      · intro a w hI
        obtain ⟨start2005, r2006, hS, hM⟩ := hI
        rw [slices_symMergeCmpFunc_huff_packet__b6e1_7e8b.j9] at hM
        refine wp_seq ?_
        refine wp_region_list ?_
        refine st1 hS (mv rfl) rfl fun a w hS => ?_
        refine st1 hS (bin rfl rfl rfl) rfl fun a w hS => ?_
        refine st1x (v := Value.int .i64) hS (asg rfl) rfl fun p2008 a w hz hS => ?_
        have hM := lt_to hz hM; clear hz
        refine wpList_nil ?_
        refine then_n ?_
        refine seq_joinJ (fun a w => ∃ (start2032 : Int), Ss 220 [] [(0, .slice A1740 rw1742.length c1741), (1, .int .i64 a_1746), (2, .int .i64 m1747), (3, .int .i64 b_1748), (4, fnv 33 [] []), (18, .int .i64 mid2001), (19, .int .i64 n_2002), (20, .int .i64 start2032)] H [p1739, f1744] F a w ∧ (slices_symMergeCmpFunc_huff_packet__b6e1_7e8b.j11 K (slices_symMergeCmpFunc_huff_packet__b6e1_7e8b.r K d) data1738 a_1746 m1747 b_1748 mid2001 n_2002 start2032).wp kr kp) (fun J2033 hJ2033 => ?_) ?_
        · refine wp_block ?_
          refine s_loopJ (fun k2011 a w => ∃ (start2009 : Int) (r2010 : Int), Ss 220 [] [(0, .slice A1740 rw1742.length c1741), (1, .int .i64 a_1746), (2, .int .i64 m1747), (3, .int .i64 b_1748), (4, fnv 33 [] []), (18, .int .i64 mid2001), (19, .int .i64 n_2002), (20, .int .i64 start2009), (21, .int .i64 r2010), (22, .int .i64 p2008)] H [p1739, f1744] F a w ∧ (slices_symMergeCmpFunc_huff_packet__b6e1_7e8b.l10 K (slices_symMergeCmpFunc_huff_packet__b6e1_7e8b.r K d) data1738 a_1746 m1747 b_1748 mid2001 n_2002 p2008 k2011 start2009 r2010).wp kr kp) K ?_ ?_ ?_
          · exact ⟨start2005, r2006, hS.to [0, 1] (by kernel_rfl) ⟨rfl, rfl, rfl, rfl, rfl, rfl, rfl, rfl, rfl, rfl, trivial⟩, hM⟩
          · intro a w hI; obtain ⟨_, _, _, hM⟩ := hI; exact hM
          · intro k2011 a w hI J2031 hJ2031
            obtain ⟨start2009, r2010, hS, hM⟩ := hI
            rw [slices_symMergeCmpFunc_huff_packet__b6e1_7e8b.l10] at hM
            refine wp_seq ?_
            refine wp_seq ?_
            refine wp_region_list ?_
            refine st1 hS (mv rfl) rfl fun a w hS => ?_
            refine st1 hS (mv rfl) rfl fun a w hS => ?_
            refine st1 hS (bin rfl rfl rfl) rfl fun a w hS => ?_
            refine wpList_nil ?_
            refine then_n ?_
            refine s_cond hS rfl hM (fun hb2012 hM => ?_) (fun hb2012 hM => ?_)
            · refine wp_skip ?_
              refine then_n ?_
              refine wp_block ?_
              refine wp_seq ?_
              refine wp_region_list ?_
              refine st1 hS (mv rfl) rfl fun a w hS => ?_
              refine st1 hS (mv rfl) rfl fun a w hS => ?_
              refine st1 hS (bin rfl rfl rfl) rfl fun a w hS => ?_
              refine st1 hS (cvi rfl Try.runUnderlying3 Try.runUnderlying46) rfl fun a w hS => ?_
              refine st1 hS (shr rfl rfl rfl) rfl fun a w hS => ?_
              refine st1 hS (cvi rfl Try.runUnderlying46 Try.runUnderlying3) rfl fun a w hS => ?_
              refine st1x (v := Value.int .i64) hS (asg rfl) rfl fun c_2013 a w hz hS => ?_
              have hM := lt_to hz hM; clear hz
              refine wpList_nil ?_
              refine then_n ?_
              refine wp_seq ?_
              obtain ⟨hk2015, hM⟩ := wp_chk hM
              obtain ⟨A2016, c2017, hw2020, hp2018, hc2019⟩ := hr1743.get hk2015
              obtain ⟨hk2022, hM⟩ := wp_chk hM
              obtain ⟨A2023, c2024, hw2027, hp2025, hc2026⟩ := hr1743.get hk2022
              refine draw_begin (vals := [some (fnv 33 [] []), some (.slice A1740 rw1742.length c1741), some (.int .i64 p2008), some (.int .i64 c_2013), some (.int .i64 (w64 (p2008 - c_2013))), some (slp A1740 (Int.toNat (w64 (p2008 - c_2013)) * 2)), some (.agg ⟨[.int .i64 ((rd data1738 (w64 (p2008 - c_2013))).often_), .slice A2016 ((rd data1738 (w64 (p2008 - c_2013))).symbols_).length c2017]⟩), some (.slice A1740 rw1742.length c1741), some (.int .i64 c_2013), some (slp A1740 (Int.toNat c_2013 * 2)), some (.agg ⟨[.int .i64 ((rd data1738 c_2013).often_), .slice A2023 ((rd data1738 c_2013).symbols_).length c2024]⟩), none, none, none]) hS mixed rfl ?_
              intro l w ho hcl hA hst
              refine phase' (vals := [some (fnv 33 [] []), some (.slice A1740 rw1742.length c1741), some (.int .i64 p2008), some (.int .i64 c_2013), some (.int .i64 (w64 (p2008 - c_2013))), some (slp A1740 (Int.toNat (w64 (p2008 - c_2013)) * 2)), some (.agg ⟨[.int .i64 ((rd data1738 (w64 (p2008 - c_2013))).often_), .slice A2016 ((rd data1738 (w64 (p2008 - c_2013))).symbols_).length c2017]⟩), some (.slice A1740 rw1742.length c1741), some (.int .i64 c_2013), some (slp A1740 (Int.toNat c_2013 * 2)), some (.agg ⟨[.int .i64 ((rd data1738 c_2013).often_), .slice A2023 ((rd data1738 c_2013).symbols_).length c2024]⟩), none, none, none]) 11 [] [0, 1, 2, 3, 4, 5, 6, 7, 8, 9, 10] rfl rfl rfl rfl (by exact ⟨nR rfl rfl rfl rfl rfl (by exact ovE (mv rfl) rfl), nR rfl rfl rfl rfl rfl (by exact ovE (mv rfl) rfl), nR rfl rfl rfl rfl rfl (by exact ovE (mv rfl) rfl), nR rfl rfl rfl rfl rfl (by exact ovE (mv rfl) rfl), nR rfl rfl rfl rfl rfl (by exact ovE (bin rfl rfl rfl) rfl), nR rfl rfl rfl rfl rfl (by exact ovE (ixV rfl rfl Try.runUnderlying68 Try.sizeOf70 (hV1745.rd (i := 1) rfl) Row.len rfl (hr1743.inb hk2015)) rfl), nR rfl rfl rfl rfl rfl (by exact ovE (ovE (ldVA rfl (hV1745.rd (i := 1) rfl) Row.len (hr1743.inb hk2015) Try.isAgg70 Try.sizeOf70 rfl) (congrArg (fun l => Value.agg ⟨l⟩) hw2020)) rfl), nR rfl rfl rfl rfl rfl (by exact ovE (mv rfl) rfl), nR rfl rfl rfl rfl rfl (by exact ovE (mv rfl) rfl), nR rfl rfl rfl rfl rfl (by exact ovE (ixV rfl rfl Try.runUnderlying68 Try.sizeOf70 (hV1745.rd (i := 1) rfl) Row.len rfl (hr1743.inb hk2022)) rfl), nR rfl rfl rfl rfl rfl (by exact ovE (ovE (ldVA rfl (hV1745.rd (i := 1) rfl) Row.len (hr1743.inb hk2022) Try.isAgg70 Try.sizeOf70 rfl) (congrArg (fun l => Value.agg ⟨l⟩) hw2027)) rfl), trivial⟩) (fun D l a w ho hcl hav hpre hm hE hk hA hst => ?_) ho hcl (fun j hj => (List.not_mem_nil hj).elim) (fun m hm => (List.not_mem_nil hm).elim) List.not_mem_nil hA hst
              have hS := (Ss.mk hE hst).env2 (e' := [(158, fnv 33 [] []), (164, .agg ⟨[.int .i64 ((rd data1738 (w64 (p2008 - c_2013))).often_), .slice A2016 ((rd data1738 (w64 (p2008 - c_2013))).symbols_).length c2017]⟩), (168, .agg ⟨[.int .i64 ((rd data1738 c_2013).often_), .slice A2023 ((rd data1738 c_2013).symbols_).length c2024]⟩)]) ⟨rfl, rfl, rfl, trivial⟩
              refine op_of_nth rfl ?_
              refine s_callV hS rfl rfl Try.call33 (huff_Lengths_2_c hG K (T_huff_packet.mk ((rd data1738 (w64 (p2008 - c_2013))).often_) ((rd data1738 (w64 (p2008 - c_2013))).symbols_)) (T_huff_packet.mk ((rd data1738 c_2013).often_) ((rd data1738 c_2013).symbols_)) A2016 c2017 A2023 c2024 (hp2018.rdF (i := 0) rfl) hc2019 (hp2025.rdF (i := 0) rfl) hc2026 (hS.st.part 0 [0, 1] (by kernel_rfl)) (wp_bind hM) (fun x2028 w hM  hst => s_back hS.ev hst.appF rfl fun hS => ?_))
              replace hS : Ss _ _ _ H [p1739, f1744] F _ _ := hS
              refine wpList_nil (then_n ?_)
              have hcl2 := hcl.cons (k := 11) (nth_get rfl) hpre
              have hmust := must_cons (k := 11) hm (chain (k := 11) hcl (nth_get rfl) hpre [(0, 11), (6, 11), (10, 11), (5, 6), (9, 10), (1, 5), (4, 5), (7, 9), (8, 9), (2, 4), (3, 4)] [] rfl (fun _ h => absurd h List.not_mem_nil))
              replace hst := hS.st
              have hav2 := hav.cons (vals' := [some (fnv 33 [] []), some (.slice A1740 rw1742.length c1741), some (.int .i64 p2008), some (.int .i64 c_2013), some (.int .i64 (w64 (p2008 - c_2013))), some (slp A1740 (Int.toNat (w64 (p2008 - c_2013)) * 2)), some (.agg ⟨[.int .i64 ((rd data1738 (w64 (p2008 - c_2013))).often_), .slice A2016 ((rd data1738 (w64 (p2008 - c_2013))).symbols_).length c2017]⟩), some (.slice A1740 rw1742.length c1741), some (.int .i64 c_2013), some (slp A1740 (Int.toNat c_2013 * 2)), some (.agg ⟨[.int .i64 ((rd data1738 c_2013).often_), .slice A2023 ((rd data1738 c_2013).symbols_).length c2024]⟩), some (.int .i64 x2028), some (.bool (decide (x2028 < (0 : Int)))), some (.bool (!(decide (x2028 < (0 : Int)))))]) (k := 11) ⟨rfl, rfl, rfl, rfl, rfl, rfl, rfl, rfl, rfl, rfl, rfl, trivial⟩ rfl
              replace hA := (hA.next hav (subV.get (l' := [some (fnv 33 [] []), some (.slice A1740 rw1742.length c1741), some (.int .i64 p2008), some (.int .i64 c_2013), some (.int .i64 (w64 (p2008 - c_2013))), some (slp A1740 (Int.toNat (w64 (p2008 - c_2013)) * 2)), some (.agg ⟨[.int .i64 ((rd data1738 (w64 (p2008 - c_2013))).often_), .slice A2016 ((rd data1738 (w64 (p2008 - c_2013))).symbols_).length c2017]⟩), some (.slice A1740 rw1742.length c1741), some (.int .i64 c_2013), some (slp A1740 (Int.toNat c_2013 * 2)), some (.agg ⟨[.int .i64 ((rd data1738 c_2013).often_), .slice A2023 ((rd data1738 c_2013).symbols_).length c2024]⟩), some (.int .i64 x2028), some (.bool (decide (x2028 < (0 : Int)))), some (.bool (!(decide (x2028 < (0 : Int)))))]) ⟨rfl, rfl, rfl, rfl, rfl, rfl, rfl, rfl, rfl, rfl, rfl, trivial⟩)).step rfl (nth_get rfl) hk rfl rfl rfl
              clear hm hav
              replace hcl := hcl2
              refine phaseE (vals := [some (fnv 33 [] []), some (.slice A1740 rw1742.length c1741), some (.int .i64 p2008), some (.int .i64 c_2013), some (.int .i64 (w64 (p2008 - c_2013))), some (slp A1740 (Int.toNat (w64 (p2008 - c_2013)) * 2)), some (.agg ⟨[.int .i64 ((rd data1738 (w64 (p2008 - c_2013))).often_), .slice A2016 ((rd data1738 (w64 (p2008 - c_2013))).symbols_).length c2017]⟩), some (.slice A1740 rw1742.length c1741), some (.int .i64 c_2013), some (slp A1740 (Int.toNat c_2013 * 2)), some (.agg ⟨[.int .i64 ((rd data1738 c_2013).often_), .slice A2023 ((rd data1738 c_2013).symbols_).length c2024]⟩), some (.int .i64 x2028), some (.bool (decide (x2028 < (0 : Int)))), some (.bool (!(decide (x2028 < (0 : Int)))))]) [11, 0, 6, 10, 5, 9, 1, 4, 7, 8, 2, 3] [12, 13] rfl rfl rfl (by exact ⟨nR rfl rfl rfl rfl rfl (by exact ovE (bin rfl rfl rfl) rfl), nR rfl rfl rfl rfl rfl (by exact ovE (un rfl rfl) rfl), trivial⟩) (fun a w hS => ?_) ho hcl hmust hA hst
              replace hS := hS.env2 (e' := [(0, .slice A1740 rw1742.length c1741), (1, .int .i64 a_1746), (2, .int .i64 m1747), (3, .int .i64 b_1748), (4, fnv 33 [] []), (18, .int .i64 mid2001), (19, .int .i64 n_2002), (20, .int .i64 start2009), (21, .int .i64 r2010), (22, .int .i64 p2008), (23, .int .i64 c_2013), (171, .bool (!(decide (x2028 < (0 : Int)))))]) ⟨rfl, rfl, rfl, rfl, rfl, rfl, rfl, rfl, rfl, rfl, rfl, rfl, trivial⟩
              refine then_n ?_
              refine s_cond hS rfl hM (fun hb2029 hM => ?_) (fun hb2029 hM => ?_)
              · refine wp_region_list ?_
                refine st1 hS (mv rfl) rfl fun a w hS => ?_
                refine st1 hS (bin rfl rfl rfl) rfl fun a w hS => ?_
                refine st1x (v := Value.int .i64) hS (asg rfl) rfl fun start2030 a w hz hS => ?_
                have hM := lt_to hz hM; clear hz
                refine wpList_nil ?_
                refine blk_n (then_n ?_)
                exact hJ2031 _ _ ⟨start2030, r2010, hS.to [0, 1] (by kernel_rfl) ⟨rfl, rfl, rfl, rfl, rfl, rfl, rfl, rfl, rfl, rfl, trivial⟩, hM⟩
              · refine wp_region_list ?_
                refine st1 hS (mv rfl) rfl fun a w hS => ?_
                refine st1 hS (asg rfl) rfl fun a w hS => ?_
                refine wpList_nil ?_
                refine blk_n (then_n ?_)
                exact hJ2031 _ _ ⟨start2009, c_2013, hS.to [0, 1] (by kernel_rfl) ⟨rfl, rfl, rfl, rfl, rfl, rfl, rfl, rfl, rfl, rfl, trivial⟩, hM⟩
            · refine wp_exit ?_
              refine then_ex (then_ex (blk_same (then_n ?_)))
              exact hJ2033 _ _ ⟨start2009, hS.to [0, 1] (by kernel_rfl) ⟨rfl, rfl, rfl, rfl, rfl, rfl, rfl, rfl, trivial⟩, hM⟩
        · intro a w hI
          obtain ⟨start2032, hS, hM⟩ := hI
          rw [slices_symMergeCmpFunc_huff_packet__b6e1_7e8b.j11] at hM
          refine wp_seq ?_
          refine wp_region_list ?_
          refine st1 hS (mv rfl) rfl fun a w hS => ?_
          refine st1 hS (mv rfl) rfl fun a w hS => ?_
          refine st1 hS (bin rfl rfl rfl) rfl fun a w hS => ?_
          refine st1x (v := Value.int .i64) hS (asg rfl) rfl fun end_2034 a w hz hS => ?_
          have hM := lt_to hz hM; clear hz
          refine wpList_nil ?_
          refine then_n ?_
          refine seq_joinJ (fun a w => ∃ (rw2043 : List (Row 2)) (data2044 : (List T_huff_packet)) (f2045 : Frag), Ss 220 [] [(0, .slice A1740 rw2043.length c1741), (1, .int .i64 a_1746), (3, .int .i64 b_1748), (4, fnv 33 [] []), (18, .int .i64 mid2001), (20, .int .i64 start2032), (24, .int .i64 end_2034)] H [p1739, f2045] F a w ∧ (Vec 70 (Row.v (sz := 2)) 2 A1740 rw2043 c1741 f2045) ∧ (RelL (R_huff_packet p1739) data2044 rw2043) ∧ (rw2043.length = rw1742.length) ∧ (slices_symMergeCmpFunc_huff_packet__b6e1_7e8b.j12 K (slices_symMergeCmpFunc_huff_packet__b6e1_7e8b.r K d) a_1746 b_1748 mid2001 start2032 end_2034 data2044).wp kr kp) (fun J2049 hJ2049 => ?_) ?_
          · refine wp_seq ?_
            refine wp_region_list ?_
            refine st1 hS (mv rfl) rfl fun a w hS => ?_
            refine st1 hS (mv rfl) rfl fun a w hS => ?_
            refine st1 hS (bin rfl rfl rfl) rfl fun a w hS => ?_
            refine st1 hS (mv rfl) rfl fun a w hS => ?_
            refine g_op 3 true 181 (b := (decide (start2032 < m1747))) (r := (decide (m1747 < end_2034))) hS rfl rfl rfl rfl rfl rfl rfl (fun hb a w hS K hK => ?_) rfl fun a w hS => ?_
            · refine st1g hS rfl rfl rfl hb (mv rfl) rfl fun a w hS => ?_
              refine st1g hS rfl rfl rfl hb (mv rfl) rfl fun a w hS => ?_
              refine st1g hS rfl rfl rfl hb (bin rfl rfl rfl) rfl fun a w hS => ?_
              exact wpList_nil (hK _ _ (hS.up 3 rfl rfl))
            refine wpList_nil ?_
            refine then_n ?_
            refine s_cond hS rfl hM (fun hb2035 hM => ?_) (fun hb2035 hM => ?_)
            · refine wp_region_list ?_
              refine st1 hS (mv rfl) rfl fun a w hS => ?_
              refine st1 hS (mv rfl) rfl fun a w hS => ?_
              refine st1 hS (mv rfl) rfl fun a w hS => ?_
              refine st1 hS (mv rfl) rfl fun a w hS => ?_
              refine st1 hS (mv rfl) rfl fun a w hS => ?_
              refine s_call hS rfl Try.call47 (slices_rotateCmpFunc_huff_packet__b6e1_7e8b_c hG K data1738 start2032 m1747 end_2034 p1739 A1740 c1741 rw1742 f1744 hr1743 hV1745 (hS.st.part 2 [0, 1] (by kernel_rfl)) (wp_bind hM) (fun rw2036 data2037 f2038 w hM h2039 h2040 h2041 hst => s_back hS.ev hst.appF rfl fun hS => ?_))
              replace hS : Ss _ _ _ H [p1739, f2038] F _ _ := hS
              have hz2042 := Eq.trans h2041 hz1750
              replace hS := hS.re 0 (u := .slice A1740 rw1742.length c1741) (v := .slice A1740 rw2036.length c1741) rfl (by rw [h2041])
              replace hS := hS.re 186 (u := .slice A1740 rw1742.length c1741) (v := .slice A1740 rw2036.length c1741) rfl (by rw [h2041])
              refine wpList_nil ?_
              refine then_n ?_
              exact hJ2049 _ _ ⟨rw2036, data2037, f2038, hS.to [0, 1] (by kernel_rfl) ⟨rfl, rfl, rfl, rfl, rfl, rfl, rfl, trivial⟩, h2039, h2040, hz2042, hM⟩
            · refine wp_skip ?_
              refine then_n ?_
              exact hJ2049 _ _ ⟨rw1742, data1738, f1744, hS.to [0, 1] (by kernel_rfl) ⟨rfl, rfl, rfl, rfl, rfl, rfl, rfl, trivial⟩, hV1745, hr1743, hz1750, hM⟩
          · intro a w hI
            obtain ⟨rw2043, data2044, f2045, hS, hV2046, hr2047, hz2048, hM⟩ := hI
            rw [slices_symMergeCmpFunc_huff_packet__b6e1_7e8b.j12] at hM
            refine seq_joinJ (fun a w => ∃ (rw2058 : List (Row 2)) (data2059 : (List T_huff_packet)) (f2060 : Frag), Ss 220 [] [(0, .slice A1740 rw2058.length c1741), (3, .int .i64 b_1748), (4, fnv 33 [] []), (18, .int .i64 mid2001), (24, .int .i64 end_2034)] H [p1739, f2060] F a w ∧ (Vec 70 (Row.v (sz := 2)) 2 A1740 rw2058 c1741 f2060) ∧ (RelL (R_huff_packet p1739) data2059 rw2058) ∧ (rw2058.length = rw1742.length) ∧ (slices_symMergeCmpFunc_huff_packet__b6e1_7e8b.j13 K (slices_symMergeCmpFunc_huff_packet__b6e1_7e8b.r K d) b_1748 mid2001 end_2034 data2059).wp kr kp) (fun J2064 hJ2064 => ?_) ?_
            · refine wp_seq ?_
              refine wp_region_list ?_
              refine st1 hS (mv rfl) rfl fun a w hS => ?_
              refine st1 hS (mv rfl) rfl fun a w hS => ?_
              refine st1 hS (bin rfl rfl rfl) rfl fun a w hS => ?_
              refine st1 hS (mv rfl) rfl fun a w hS => ?_
              refine g_op 3 true 195 (b := (decide (a_1746 < start2032))) (r := (decide (start2032 < mid2001))) hS rfl rfl rfl rfl rfl rfl rfl (fun hb a w hS K hK => ?_) rfl fun a w hS => ?_
              · refine st1g hS rfl rfl rfl hb (mv rfl) rfl fun a w hS => ?_
                refine st1g hS rfl rfl rfl hb (mv rfl) rfl fun a w hS => ?_
                refine st1g hS rfl rfl rfl hb (bin rfl rfl rfl) rfl fun a w hS => ?_
                exact wpList_nil (hK _ _ (hS.up 3 rfl rfl))
              refine wpList_nil ?_
              refine then_n ?_
              refine s_cond hS rfl hM (fun hb2050 hM => ?_) (fun hb2050 hM => ?_)
              · refine wp_region_list ?_
                refine st1 hS (mv rfl) rfl fun a w hS => ?_
                refine st1 hS (mv rfl) rfl fun a w hS => ?_
                refine st1 hS (mv rfl) rfl fun a w hS => ?_
                refine st1 hS (mv rfl) rfl fun a w hS => ?_
                refine st1 hS (mv rfl) rfl fun a w hS => ?_
                refine s_call hS rfl Try.call44 (ih hG  data2044 a_1746 start2032 mid2001 p1739 A1740 c1741 rw2043 f2045 hr2047 hV2046 (hS.st.part 2 [0, 1] (by kernel_rfl)) (wp_bind hM) (fun rw2051 data2052 f2053 w hM h2054 h2055 h2056 hst => s_back hS.ev hst.appF rfl fun hS => ?_))
                replace hS : Ss _ _ _ H [p1739, f2053] F _ _ := hS
                have hz2057 := Eq.trans h2056 hz2048
                replace hS := hS.re 0 (u := .slice A1740 rw2043.length c1741) (v := .slice A1740 rw2051.length c1741) rfl (by rw [h2056])
                replace hS := hS.re 200 (u := .slice A1740 rw2043.length c1741) (v := .slice A1740 rw2051.length c1741) rfl (by rw [h2056])
                refine wpList_nil ?_
                refine then_n ?_
                exact hJ2064 _ _ ⟨rw2051, data2052, f2053, hS.to [0, 1] (by kernel_rfl) ⟨rfl, rfl, rfl, rfl, rfl, trivial⟩, h2054, h2055, hz2057, hM⟩
              · refine wp_skip ?_
                refine then_n ?_
                exact hJ2064 _ _ ⟨rw2043, data2044, f2045, hS.to [0, 1] (by kernel_rfl) ⟨rfl, rfl, rfl, rfl, rfl, trivial⟩, hV2046, hr2047, hz2048, hM⟩
            · intro a w hI
              obtain ⟨rw2058, data2059, f2060, hS, hV2061, hr2062, hz2063, hM⟩ := hI
              rw [slices_symMergeCmpFunc_huff_packet__b6e1_7e8b.j13] at hM
              refine wp_seq ?_
              refine wp_region_list ?_
              refine st1 hS (mv rfl) rfl fun a w hS => ?_
              refine st1 hS (mv rfl) rfl fun a w hS => ?_
              refine st1 hS (bin rfl rfl rfl) rfl fun a w hS => ?_
              refine st1 hS (mv rfl) rfl fun a w hS => ?_
              refine g_op 3 true 209 (b := (decide (mid2001 < end_2034))) (r := (decide (end_2034 < b_1748))) hS rfl rfl rfl rfl rfl rfl rfl (fun hb a w hS K hK => ?_) rfl fun a w hS => ?_
              · refine st1g hS rfl rfl rfl hb (mv rfl) rfl fun a w hS => ?_
                refine st1g hS rfl rfl rfl hb (mv rfl) rfl fun a w hS => ?_
                refine st1g hS rfl rfl rfl hb (bin rfl rfl rfl) rfl fun a w hS => ?_
                exact wpList_nil (hK _ _ (hS.up 3 rfl rfl))
              refine wpList_nil ?_
              refine then_n ?_
              refine s_cond hS rfl hM (fun hb2065 hM => ?_) (fun hb2065 hM => ?_)
              · refine wp_region_list ?_
                refine st1 hS (mv rfl) rfl fun a w hS => ?_
                refine st1 hS (mv rfl) rfl fun a w hS => ?_
                refine st1 hS (mv rfl) rfl fun a w hS => ?_
                refine st1 hS (mv rfl) rfl fun a w hS => ?_
                refine st1 hS (mv rfl) rfl fun a w hS => ?_
                refine s_call hS rfl Try.call44 (ih hG  data2059 mid2001 end_2034 b_1748 p1739 A1740 c1741 rw2058 f2060 hr2062 hV2061 (hS.st.part 2 [0, 1] (by kernel_rfl)) (wp_bind hM) (fun rw2066 data2067 f2068 w hM h2069 h2070 h2071 hst => s_back hS.ev hst.appF rfl fun hS => ?_))
                replace hS : Ss _ _ _ H [p1739, f2068] F _ _ := hS
                have hz2072 := Eq.trans h2071 hz2063
                replace hS := hS.re 0 (u := .slice A1740 rw2058.length c1741) (v := .slice A1740 rw2066.length c1741) rfl (by rw [h2071])
                replace hS := hS.re 214 (u := .slice A1740 rw2058.length c1741) (v := .slice A1740 rw2066.length c1741) rfl (by rw [h2071])
                refine wpList_nil ?_
                exact s_end (rs := []) hS rfl rfl (hret rw2066 data2067 f2068 w hM h2069 h2070 hz2072 (hS.st.pick [0, 1] (by kernel_rfl)))
              · refine wp_skip ?_
                exact s_end (rs := []) hS rfl rfl (hret rw2058 data2059 f2060 w hM hV2061 hr2062 hz2063 (hS.st.pick [0, 1] (by kernel_rfl)))

theorem slices_symMergeCmpFunc_huff_packet__b6e1_7e8b_c {H : Imm} {F : List Frag} {w : World} {R : Ending → World → Prop} {kr : (List T_huff_packet) → Prop} {kp : Value → Prop} (hG : Gl H) (K : Nat) (data1738 : List T_huff_packet) (a_1746 : Int) (m1747 : Int) (b_1748 : Int) (p1739 : Frag) (A1740 : Option Addr) (c1741 : Nat) (rw1742 : List (Row 2)) (f1744 : Frag) (hr1743 : RelL (R_huff_packet p1739) data1738 rw1742) (hV1745 : Vec 70 (Row.v (sz := 2)) 2 A1740 rw1742 c1741 f1744)
    (hS : St w H [p1739, f1744] F) (hm : (slices_symMergeCmpFunc_huff_packet__b6e1_7e8b.m K data1738 a_1746 m1747 b_1748).wp kr kp)
    (hret : ∀ (rw2073 : List (Row 2)) (data2074 : (List T_huff_packet)) (f2075 : Frag) (w : World), kr data2074 → (Vec 70 (Row.v (sz := 2)) 2 A1740 rw2073 c1741 f2075) → (RelL (R_huff_packet p1739) data2074 rw2073) → (rw2073.length = rw1742.length) → St w H [p1739, f2075] F → R (.returned (.tuple ⟨[]⟩)) w) :
    Calls Try.prog 44 ⟨[.slice A1740 rw1742.length c1741, .int .i64 a_1746, .int .i64 m1747, .int .i64 b_1748, fnv 33 [] []]⟩ w R := slices_symMergeCmpFunc_huff_packet__b6e1_7e8b_cr K K hG data1738 a_1746 m1747 b_1748 p1739 A1740 c1741 rw1742 f1744 hr1743 hV1745 hS hm hret

theorem slices_stableCmpFunc_huff_packet__b6e1_8977_c {H : Imm} {F : List Frag} {w : World} {R : Ending → World → Prop} {kr : (List T_huff_packet) → Prop} {kp : Value → Prop} (hG : Gl H) (K : Nat) (data793 : List T_huff_packet) (n_801 : Int) (p794 : Frag) (A795 : Option Addr) (c796 : Nat) (rw797 : List (Row 2)) (f799 : Frag) (hr798 : RelL (R_huff_packet p794) data793 rw797) (hV800 : Vec 70 (Row.v (sz := 2)) 2 A795 rw797 c796 f799)
    (hS : St w H [p794, f799] F) (hm : (slices_stableCmpFunc_huff_packet__b6e1_8977.m K data793 n_801).wp kr kp)
    (hret : ∀ (rw2209 : List (Row 2)) (data2210 : (List T_huff_packet)) (f2211 : Frag) (w : World), kr data2210 → (Vec 70 (Row.v (sz := 2)) 2 A795 rw2209 c796 f2211) → (RelL (R_huff_packet p794) data2210 rw2209) → (rw2209.length = rw797.length) → St w H [p794, f2211] F → R (.returned (.tuple ⟨[]⟩)) w) :
    Calls Try.prog 38 ⟨[.slice A795 rw797.length c796, .int .i64 n_801, fnv 33 [] []]⟩ w R := by
  refine enter Try.func38 rfl Try.ntmps38 rfl hS fun a w hS => ?_
  have hM := hm; clear hm
  rw [slices_stableCmpFunc_huff_packet__b6e1_8977.m] at hM
  have hs802 : ∀ q ∈ p794, q ∈ p794 := fun _ h => h
  have hz803 : rw797.length = rw797.length := rfl
  refine wp_seq ?_
  refine wp_region_list ?_
  refine st1 hS (asg rfl) rfl fun a w hS => ?_
  refine wpList_nil ?_
  refine then_n ?_
  refine wp_seq ?_
  refine wp_region_list ?_
  refine st1 hS (mv rfl) rfl fun a w hS => ?_
  refine st1 hS (asg rfl) rfl fun a w hS => ?_
  refine st1 hS (asg rfl) rfl fun a w hS => ?_
  refine wpList_nil ?_
  refine then_n ?_
  refine seq_joinJ (fun a w => ∃ (rw1185 : List (Row 2)) (data1186 : (List T_huff_packet)) (f1187 : Frag) (a_1191 : Int), Ss 63 [] [(0, .slice A795 rw1185.length c796), (1, .int .i64 n_801), (2, fnv 33 [] []), (6, .int .i64 (20 : Int)), (7, .int .i64 a_1191)] H [p794, f1187] F a w ∧ (Vec 70 (Row.v (sz := 2)) 2 A795 rw1185 c796 f1187) ∧ (RelL (R_huff_packet p794) data1186 rw1185) ∧ (rw1185.length = rw797.length) ∧ (slices_stableCmpFunc_huff_packet__b6e1_8977.j2 K n_801 data1186 a_1191).wp kr kp) (fun J1192 hJ1192 => ?_) ?_
  · refine wp_block ?_
    refine s_loopJ (fun k1174 a w => ∃ (rw1166 : List (Row 2)) (data1167 : (List T_huff_packet)) (f1168 : Frag) (a_1172 : Int) (b_1173 : Int), Ss 63 [] [(0, .slice A795 rw1166.length c796), (1, .int .i64 n_801), (2, fnv 33 [] []), (6, .int .i64 (20 : Int)), (7, .int .i64 a_1172), (8, .int .i64 b_1173)] H [p794, f1168] F a w ∧ (Vec 70 (Row.v (sz := 2)) 2 A795 rw1166 c796 f1168) ∧ (RelL (R_huff_packet p794) data1167 rw1166) ∧ (rw1166.length = rw797.length) ∧ (slices_stableCmpFunc_huff_packet__b6e1_8977.l1 K n_801 k1174 data1167 a_1172 b_1173).wp kr kp) K ?_ ?_ ?_
    · exact ⟨rw797, data793, f799, (0 : Int), (20 : Int), hS.to [0, 1] (by kernel_rfl) ⟨rfl, rfl, rfl, rfl, rfl, rfl, trivial⟩, hV800, hr798, hz803, hM⟩
    · intro a w hI; obtain ⟨_, _, _, _, _, _, _, _, _, hM⟩ := hI; exact hM
    · intro k1174 a w hI J1184 hJ1184
      obtain ⟨rw1166, data1167, f1168, a_1172, b_1173, hS, hV1169, hr1170, hz1171, hM⟩ := hI
      rw [slices_stableCmpFunc_huff_packet__b6e1_8977.l1] at hM
      refine wp_seq ?_
      refine wp_seq ?_
      refine wp_region_list ?_
      refine st1 hS (mv rfl) rfl fun a w hS => ?_
      refine st1 hS (mv rfl) rfl fun a w hS => ?_
      refine st1 hS (bin rfl rfl rfl) rfl fun a w hS => ?_
      refine wpList_nil ?_
      refine then_n ?_
      refine s_cond hS rfl hM (fun hb1175 hM => ?_) (fun hb1175 hM => ?_)
      · refine wp_skip ?_
        refine then_n ?_
        refine wp_block ?_
        refine wp_seq ?_
        refine wp_region_list ?_
        refine st1 hS (mv rfl) rfl fun a w hS => ?_
        refine st1 hS (mv rfl) rfl fun a w hS => ?_
        refine st1 hS (mv rfl) rfl fun a w hS => ?_
        refine st1 hS (mv rfl) rfl fun a w hS => ?_
        refine s_call hS rfl Try.call43 (slices_insertionSortCmpFunc_huff_packet__b6e1_5de2_c hG K data1167 a_1172 b_1173 p794 A795 c796 rw1166 f1168 hr1170 hV1169 (hS.st.part 2 [0, 1] (by kernel_rfl)) (wp_bind hM) (fun rw1176 data1177 f1178 w hM h1179 h1180 h1181 hst => s_back hS.ev hst.appF rfl fun hS => ?_))
        replace hS : Ss _ _ _ H [p794, f1178] F _ _ := hS
        have hz1182 := Eq.trans h1181 hz1171
        replace hS := hS.re 0 (u := .slice A795 rw1166.length c796) (v := .slice A795 rw1176.length c796) rfl (by rw [h1181])
        replace hS := hS.re 14 (u := .slice A795 rw1166.length c796) (v := .slice A795 rw1176.length c796) rfl (by rw [h1181])
        refine wpList_nil ?_
        refine then_n ?_
        refine wp_seq ?_
        refine wp_region_list ?_
        refine st1 hS (mv rfl) rfl fun a w hS => ?_
        refine st1 hS (asg rfl) rfl fun a w hS => ?_
        refine wpList_nil ?_
        refine then_n ?_
        refine wp_region_list ?_
        refine st1 hS (mv rfl) rfl fun a w hS => ?_
        refine st1 hS (mv rfl) rfl fun a w hS => ?_
        refine st1 hS (bin rfl rfl rfl) rfl fun a w hS => ?_
        refine st1x (v := Value.int .i64) hS (asg rfl) rfl fun b_1183 a w hz hS => ?_
        have hM := lt_to hz hM; clear hz
        refine wpList_nil ?_
        refine blk_n (then_n ?_)
        exact hJ1184 _ _ ⟨rw1176, data1177, f1178, b_1173, b_1183, hS.to [0, 1] (by kernel_rfl) ⟨rfl, rfl, rfl, rfl, rfl, rfl, trivial⟩, h1179, h1180, hz1182, hM⟩
      · refine wp_exit ?_
        refine then_ex (then_ex (blk_same (then_n ?_)))
        exact hJ1192 _ _ ⟨rw1166, data1167, f1168, a_1172, hS.to [0, 1] (by kernel_rfl) ⟨rfl, rfl, rfl, rfl, rfl, trivial⟩, hV1169, hr1170, hz1171, hM⟩
  · intro a w hI
    obtain ⟨rw1185, data1186, f1187, a_1191, hS, hV1188, hr1189, hz1190, hM⟩ := hI
    rw [slices_stableCmpFunc_huff_packet__b6e1_8977.j2] at hM
    refine wp_seq ?_
    refine wp_region_list ?_
    refine st1 hS (mv rfl) rfl fun a w hS => ?_
    refine st1 hS (mv rfl) rfl fun a w hS => ?_
    refine st1 hS (mv rfl) rfl fun a w hS => ?_
    refine st1 hS (mv rfl) rfl fun a w hS => ?_
    refine s_call hS rfl Try.call43 (slices_insertionSortCmpFunc_huff_packet__b6e1_5de2_c hG K data1186 a_1191 n_801 p794 A795 c796 rw1185 f1187 hr1189 hV1188 (hS.st.part 2 [0, 1] (by kernel_rfl)) (wp_bind hM) (fun rw1193 data1194 f1195 w hM h1196 h1197 h1198 hst => s_back hS.ev hst.appF rfl fun hS => ?_))
    replace hS : Ss _ _ _ H [p794, f1195] F _ _ := hS
    have hz1199 := Eq.trans h1198 hz1190
    replace hS := hS.re 0 (u := .slice A795 rw1185.length c796) (v := .slice A795 rw1193.length c796) rfl (by rw [h1198])
    replace hS := hS.re 23 (u := .slice A795 rw1185.length c796) (v := .slice A795 rw1193.length c796) rfl (by rw [h1198])
    refine wpList_nil ?_
    refine then_n ?_
    refine wp_block ?_
    refine s_loopJ (fun k2147 a w => ∃ (rw2140 : List (Row 2)) (data2141 : (List T_huff_packet)) (f2142 : Frag) (blockSize2146 : Int), Ss 63 [] [(0, .slice A795 rw2140.length c796), (1, .int .i64 n_801), (2, fnv 33 [] []), (6, .int .i64 blockSize2146)] H [p794, f2142] F a w ∧ (Vec 70 (Row.v (sz := 2)) 2 A795 rw2140 c796 f2142) ∧ (RelL (R_huff_packet p794) data2141 rw2140) ∧ (rw2140.length = rw797.length) ∧ (slices_stableCmpFunc_huff_packet__b6e1_8977.l3 K n_801 k2147 data2141 blockSize2146).wp kr kp) K ?_ ?_ ?_
    · exact ⟨rw1193, data1194, f1195, (20 : Int), hS.to [0, 1] (by kernel_rfl) ⟨rfl, rfl, rfl, rfl, trivial⟩, h1196, h1197, hz1199, hM⟩
    · intro a w hI; obtain ⟨_, _, _, _, _, _, _, _, hM⟩ := hI; exact hM
    · intro k2147 a w hI J2208 hJ2208
      obtain ⟨rw2140, data2141, f2142, blockSize2146, hS, hV2143, hr2144, hz2145, hM⟩ := hI
      rw [slices_stableCmpFunc_huff_packet__b6e1_8977.l3] at hM
      refine wp_seq ?_
      refine wp_seq ?_
      refine wp_region_list ?_
      refine st1 hS (mv rfl) rfl fun a w hS => ?_
      refine st1 hS (mv rfl) rfl fun a w hS => ?_
      refine st1 hS (bin rfl rfl rfl) rfl fun a w hS => ?_
      refine wpList_nil ?_
      refine then_n ?_
      refine s_cond hS rfl hM (fun hb2148 hM => ?_) (fun hb2148 hM => ?_)
      · refine wp_skip ?_
        refine then_n ?_
        refine wp_block ?_
        refine wp_seq ?_
        refine wp_region_list ?_
        refine st1 hS (mv rfl) rfl fun a w hS => ?_
        refine st1 hS (bin rfl rfl rfl) rfl fun a w hS => ?_
        refine st1 hS (asg rfl) rfl fun a w hS => ?_
        refine st1x (v := Value.int .i64) hS (asg rfl) rfl fun b_2149 a w hz hS => ?_
        have hM := lt_to hz hM; clear hz
        refine wpList_nil ?_
        refine then_n ?_
        refine seq_joinJ (fun a w => ∃ (rw2189 : List (Row 2)) (data2190 : (List T_huff_packet)) (f2191 : Frag) (a_2195 : Int), Ss 63 [] [(0, .slice A795 rw2189.length c796), (1, .int .i64 n_801), (2, fnv 33 [] []), (6, .int .i64 blockSize2146), (7, .int .i64 a_2195)] H [p794, f2191] F a w ∧ (Vec 70 (Row.v (sz := 2)) 2 A795 rw2189 c796 f2191) ∧ (RelL (R_huff_packet p794) data2190 rw2189) ∧ (rw2189.length = rw797.length) ∧ (slices_stableCmpFunc_huff_packet__b6e1_8977.j5 K (slices_stableCmpFunc_huff_packet__b6e1_8977.l3 K n_801 k2147) n_801 blockSize2146 data2190 a_2195).wp kr kp) (fun J2196 hJ2196 => ?_) ?_
        · refine wp_block ?_
          refine s_loopJ (fun k2178 a w => ∃ (rw2170 : List (Row 2)) (data2171 : (List T_huff_packet)) (f2172 : Frag) (a_2176 : Int) (b_2177 : Int), Ss 63 [] [(0, .slice A795 rw2170.length c796), (1, .int .i64 n_801), (2, fnv 33 [] []), (6, .int .i64 blockSize2146), (7, .int .i64 a_2176), (8, .int .i64 b_2177)] H [p794, f2172] F a w ∧ (Vec 70 (Row.v (sz := 2)) 2 A795 rw2170 c796 f2172) ∧ (RelL (R_huff_packet p794) data2171 rw2170) ∧ (rw2170.length = rw797.length) ∧ (slices_stableCmpFunc_huff_packet__b6e1_8977.l4 K (slices_stableCmpFunc_huff_packet__b6e1_8977.l3 K n_801 k2147) n_801 blockSize2146 k2178 data2171 a_2176 b_2177).wp kr kp) K ?_ ?_ ?_
          · exact ⟨rw2140, data2141, f2142, (0 : Int), b_2149, hS.to [0, 1] (by kernel_rfl) ⟨rfl, rfl, rfl, rfl, rfl, rfl, trivial⟩, hV2143, hr2144, hz2145, hM⟩
          · intro a w hI; obtain ⟨_, _, _, _, _, _, _, _, _, hM⟩ := hI; exact hM
          · intro k2178 a w hI J2188 hJ2188
            obtain ⟨rw2170, data2171, f2172, a_2176, b_2177, hS, hV2173, hr2174, hz2175, hM⟩ := hI
            rw [slices_stableCmpFunc_huff_packet__b6e1_8977.l4] at hM
            refine wp_seq ?_
            refine wp_seq ?_
            refine wp_region_list ?_
            refine st1 hS (mv rfl) rfl fun a w hS => ?_
            refine st1 hS (mv rfl) rfl fun a w hS => ?_
            refine st1 hS (bin rfl rfl rfl) rfl fun a w hS => ?_
            refine wpList_nil ?_
            refine then_n ?_
            refine s_cond hS rfl hM (fun hb2179 hM => ?_) (fun hb2179 hM => ?_)
            · refine wp_skip ?_
              refine then_n ?_
              refine wp_block ?_
              refine wp_seq ?_
              refine wp_region_list ?_
              refine st1 hS (mv rfl) rfl fun a w hS => ?_
              refine st1 hS (mv rfl) rfl fun a w hS => ?_
              refine st1 hS (mv rfl) rfl fun a w hS => ?_
              refine st1 hS (mv rfl) rfl fun a w hS => ?_
              refine st1 hS (bin rfl rfl rfl) rfl fun a w hS => ?_
              refine st1 hS (mv rfl) rfl fun a w hS => ?_
              refine st1 hS (mv rfl) rfl fun a w hS => ?_
              refine s_call hS rfl Try.call44 (slices_symMergeCmpFunc_huff_packet__b6e1_7e8b_c hG K data2171 a_2176 (w64 (a_2176 + blockSize2146)) b_2177 p794 A795 c796 rw2170 f2172 hr2174 hV2173 (hS.st.part 2 [0, 1] (by kernel_rfl)) (wp_bind hM) (fun rw2180 data2181 f2182 w hM h2183 h2184 h2185 hst => s_back hS.ev hst.appF rfl fun hS => ?_))
              replace hS : Ss _ _ _ H [p794, f2182] F _ _ := hS
              have hz2186 := Eq.trans h2185 hz2175
              replace hS := hS.re 0 (u := .slice A795 rw2170.length c796) (v := .slice A795 rw2180.length c796) rfl (by rw [h2185])
              replace hS := hS.re 36 (u := .slice A795 rw2170.length c796) (v := .slice A795 rw2180.length c796) rfl (by rw [h2185])
              refine wpList_nil ?_
              refine then_n ?_
              refine wp_seq ?_
              refine wp_region_list ?_
              refine st1 hS (mv rfl) rfl fun a w hS => ?_
              refine st1 hS (asg rfl) rfl fun a w hS => ?_
              refine wpList_nil ?_
              refine then_n ?_
              refine wp_region_list ?_
              refine st1 hS (mv rfl) rfl fun a w hS => ?_
              refine st1 hS (mv rfl) rfl fun a w hS => ?_
              refine st1 hS (bin rfl rfl rfl) rfl fun a w hS => ?_
              refine st1 hS (bin rfl rfl rfl) rfl fun a w hS => ?_
              refine st1x (v := Value.int .i64) hS (asg rfl) rfl fun b_2187 a w hz hS => ?_
              have hM := lt_to hz hM; clear hz
              refine wpList_nil ?_
              refine blk_n (then_n ?_)
              exact hJ2188 _ _ ⟨rw2180, data2181, f2182, b_2177, b_2187, hS.to [0, 1] (by kernel_rfl) ⟨rfl, rfl, rfl, rfl, rfl, rfl, trivial⟩, h2183, h2184, hz2186, hM⟩
            · refine wp_exit ?_
              refine then_ex (then_ex (blk_same (then_n ?_)))
              exact hJ2196 _ _ ⟨rw2170, data2171, f2172, a_2176, hS.to [0, 1] (by kernel_rfl) ⟨rfl, rfl, rfl, rfl, rfl, trivial⟩, hV2173, hr2174, hz2175, hM⟩
        · intro a w hI
          obtain ⟨rw2189, data2190, f2191, a_2195, hS, hV2192, hr2193, hz2194, hM⟩ := hI
          rw [slices_stableCmpFunc_huff_packet__b6e1_8977.j5] at hM
          refine wp_seq ?_
          refine wp_seq ?_
          refine wp_region_list ?_
          refine st1 hS (mv rfl) rfl fun a w hS => ?_
          refine st1 hS (mv rfl) rfl fun a w hS => ?_
          refine st1 hS (bin rfl rfl rfl) rfl fun a w hS => ?_
          refine st1x (v := Value.int .i64) hS (asg rfl) rfl fun m2197 a w hz hS => ?_
          have hM := lt_to hz hM; clear hz
          refine wpList_nil ?_
          refine then_n ?_
          refine wp_seq ?_
          refine wp_region_list ?_
          refine st1 hS (mv rfl) rfl fun a w hS => ?_
          refine st1 hS (mv rfl) rfl fun a w hS => ?_
          refine st1 hS (bin rfl rfl rfl) rfl fun a w hS => ?_
          refine wpList_nil ?_
          refine then_n ?_
          refine s_cond hS rfl hM (fun hb2198 hM => ?_) (fun hb2198 hM => ?_)
          · refine wp_region_list ?_
            refine st1 hS (mv rfl) rfl fun a w hS => ?_
            refine st1 hS (mv rfl) rfl fun a w hS => ?_
            refine st1 hS (mv rfl) rfl fun a w hS => ?_
            refine st1 hS (mv rfl) rfl fun a w hS => ?_
            refine st1 hS (mv rfl) rfl fun a w hS => ?_
            refine s_call hS rfl Try.call44 (slices_symMergeCmpFunc_huff_packet__b6e1_7e8b_c hG K data2190 a_2195 m2197 n_801 p794 A795 c796 rw2189 f2191 hr2193 hV2192 (hS.st.part 2 [0, 1] (by kernel_rfl)) (wp_bind hM) (fun rw2199 data2200 f2201 w hM h2202 h2203 h2204 hst => s_back hS.ev hst.appF rfl fun hS => ?_))
            replace hS : Ss _ _ _ H [p794, f2201] F _ _ := hS
            have hz2205 := Eq.trans h2204 hz2194
            replace hS := hS.re 0 (u := .slice A795 rw2189.length c796) (v := .slice A795 rw2199.length c796) rfl (by rw [h2204])
            replace hS := hS.re 55 (u := .slice A795 rw2189.length c796) (v := .slice A795 rw2199.length c796) rfl (by rw [h2204])
            refine wpList_nil ?_
            refine then_n ?_
            refine wp_region_list ?_
            refine st1 hS (mv rfl) rfl fun a w hS => ?_
            refine st1 hS (bin rfl rfl rfl) rfl fun a w hS => ?_
            refine st1x (v := Value.int .i64) hS (asg rfl) rfl fun blockSize2206 a w hz hS => ?_
            have hM := lt_to hz hM; clear hz
            refine wpList_nil ?_
            refine blk_n (then_n ?_)
            exact hJ2208 _ _ ⟨rw2199, data2200, f2201, blockSize2206, hS.to [0, 1] (by kernel_rfl) ⟨rfl, rfl, rfl, rfl, trivial⟩, h2202, h2203, hz2205, hM⟩
          · refine wp_skip ?_
            refine then_n ?_
            refine wp_region_list ?_
            refine st1 hS (mv rfl) rfl fun a w hS => ?_
            refine st1 hS (bin rfl rfl rfl) rfl fun a w hS => ?_
            refine st1x (v := Value.int .i64) hS (asg rfl) rfl fun blockSize2207 a w hz hS => ?_
            have hM := lt_to hz hM; clear hz
            refine wpList_nil ?_
            refine blk_n (then_n ?_)
            exact hJ2208 _ _ ⟨rw2189, data2190, f2191, blockSize2207, hS.to [0, 1] (by kernel_rfl) ⟨rfl, rfl, rfl, rfl, trivial⟩, hV2192, hr2193, hz2194, hM⟩
      · refine wp_exit ?_
        refine then_ex (then_ex (blk_same ?_))
        exact s_end (rs := []) hS rfl rfl (hret rw2140 data2141 f2142 w hM hV2143 hr2144 hz2145 (hS.st.pick [0, 1] (by kernel_rfl)))

theorem slices_SortStableFunc___huff_packet_huff_packet__b6e1_f289_c {H : Imm} {F : List Frag} {w : World} {R : Ending → World → Prop} {kr : (List T_huff_packet) → Prop} {kp : Value → Prop} (hG : Gl H) (K : Nat) (x783 : List T_huff_packet) (p784 : Frag) (A785 : Option Addr) (c786 : Nat) (rw787 : List (Row 2)) (f789 : Frag) (hr788 : RelL (R_huff_packet p784) x783 rw787) (hV790 : Vec 70 (Row.v (sz := 2)) 2 A785 rw787 c786 f789)
    (hS : St w H [p784, f789] F) (hm : (slices_SortStableFunc___huff_packet_huff_packet__b6e1_f289.m K x783).wp kr kp)
    (hret : ∀ (rw2222 : List (Row 2)) (x2223 : (List T_huff_packet)) (f2224 : Frag) (w : World), kr x2223 → (Vec 70 (Row.v (sz := 2)) 2 A785 rw2222 c786 f2224) → (RelL (R_huff_packet p784) x2223 rw2222) → (rw2222.length = rw787.length) → St w H [p784, f2224] F → R (.returned (.tuple ⟨[]⟩)) w) :
    Calls Try.prog 32 ⟨[.slice A785 rw787.length c786, fnv 33 [] []]⟩ w R := by
  refine enter Try.func32 rfl Try.ntmps32 rfl hS fun a w hS => ?_
  have hM := hm; clear hm
  rw [slices_SortStableFunc___huff_packet_huff_packet__b6e1_f289.m] at hM
  have hs791 : ∀ q ∈ p784, q ∈ p784 := fun _ h => h
  have hz792 : rw787.length = rw787.length := rfl
  refine wp_region_list ?_
  refine st1 hS (mv rfl) rfl fun a w hS => ?_
  refine st1 hS (mv rfl) rfl fun a w hS => ?_
  refine st1 hS (ovE (v' := .int .i64 (x783.length : Int)) (lenV rfl Try.runUnderlying68) (by rw [hr788.len])) rfl fun a w hS => ?_
  refine st1 hS (mv rfl) rfl fun a w hS => ?_
  refine s_call hS rfl Try.call38 (slices_stableCmpFunc_huff_packet__b6e1_8977_c hG K x783 (x783.length : Int) p784 A785 c786 rw787 f789 hr788 hV790 (hS.st.part 2 [0, 1] (by kernel_rfl)) (wp_bind hM) (fun rw2215 data2216 f2217 w hM h2218 h2219 h2220 hst => s_back hS.ev hst.appF rfl fun hS => ?_))
  replace hS : Ss _ _ _ H [p784, f2217] F _ _ := hS
  have hz2221 := Eq.trans h2220 hz792
  replace hS := hS.re 0 (u := .slice A785 rw787.length c786) (v := .slice A785 rw2215.length c786) rfl (by rw [h2220])
  replace hS := hS.re 4 (u := .slice A785 rw787.length c786) (v := .slice A785 rw2215.length c786) rfl (by rw [h2220])
  replace hS := hS.re 5 (u := .slice A785 rw787.length c786) (v := .slice A785 rw2215.length c786) rfl (by rw [h2220])
  refine wpList_nil ?_
  exact s_end (rs := []) hS rfl rfl (hret rw2215 data2216 f2217 w hM h2218 h2219 hz2221 (hS.st.pick [0, 1] (by kernel_rfl)))

def R_s_int (p : Frag) (x : (List Int)) (vs : List Value) : Prop :=
  ∃ (A0 : Option Addr) (c0 : Nat), vs = [.slice A0 x.length c0] ∧ Pl p (ci .i64) A0 x ∧ x.length ≤ c0
theorem R_s_int.mono {p p' : Frag} (hs : ∀ q ∈ p, q ∈ p') {x : (List Int)} {vs : List Value} (h : R_s_int p x vs) : R_s_int p' x vs := by
  obtain ⟨A0, c0, h0, h1, h2⟩ := h
  exact ⟨A0, c0, h0, h1.mono hs, h2⟩

theorem slices_Grow___int_int__f5f7_c {H : Imm} {F : List Frag} {w : World} {R : Ending → World → Prop} {kr : Unit → Prop} {kp : Value → Prop} (hG : Gl H) (K : Nat) (n_2321 : Int)
    (hS : St w H [] F) (hm : (slices_Grow___int_int__f5f7.m K n_2321).wp kr kp)
    (hret : ∀ (A2336 : Option Addr) (c2337 : Nat) (f2338 : Frag) (w : World), kr () → (Vec 3 (ci .i64) 1 A2336 ([] : List Int) c2337 f2338) → St w H [f2338] F → R (.returned (.slice A2336 ([] : List Int).length c2337)) w)
    (hpan : ∀ v w, kp v → St w H [] F → R (.panicked [⟨v, false, false⟩]) w) :
    Calls Try.prog 46 ⟨[.slice none 0 0, .int .i64 n_2321]⟩ w R := by
  refine enter Try.func46 rfl Try.ntmps46 rfl hS fun a w hS => ?_
  have hM := hm; clear hm
  rw [slices_Grow___int_int__f5f7.m] at hM
  refine wp_seq ?_
  refine wp_region_list ?_
  refine st1 hS (asg rfl) rfl fun a w hS => ?_
  obtain ⟨f2322, hV2323, hS⟩ := hS.nilV 3 (ci .i64) 1
  refine wpList_nil ?_
  refine then_n ?_
  refine wp_seq ?_
  refine wp_seq ?_
  refine wp_region_list ?_
  refine st1 hS (mv rfl) rfl fun a w hS => ?_
  refine st1 hS (bin rfl rfl rfl) rfl fun a w hS => ?_
  refine wpList_nil ?_
  refine then_n ?_
  refine s_cond hS rfl hM (fun hb2324 hM => ?_) (fun hb2324 hM => ?_)
  · refine wp_region_list ?_
    refine st1 hS (mkI rfl Try.runUnderlying9 rfl) rfl fun a w hS => ?_
    refine s_panic hS rfl ?_
    refine then_pan ?_
    exact ⟨hS.ev.defs, hpan _ _ hM hS.st.frame⟩
  · refine wp_skip ?_
    refine then_n ?_
    refine wp_seq ?_
    refine wp_seq ?_
    refine wp_region_list ?_
    refine st1 hS (mv rfl) rfl fun a w hS => ?_
    refine st1 hS (mv rfl) rfl fun a w hS => ?_
    refine st1 hS (capN rfl Try.runUnderlying22) rfl fun a w hS => ?_
    refine st1 hS (mv rfl) rfl fun a w hS => ?_
    refine st1 hS (lenV rfl Try.runUnderlying22) rfl fun a w hS => ?_
    refine st1 hS (bin rfl rfl rfl) rfl fun a w hS => ?_
    refine st1 hS (bin rfl rfl rfl) rfl fun a w hS => ?_
    refine st1x (v := Value.int .i64) hS (asg rfl) rfl fun n_2325 a w hz hS => ?_
    have hM := lt_to hz hM; clear hz
    refine wpList_nil ?_
    refine then_n ?_
    refine wp_seq ?_
    refine wp_region_list ?_
    refine st1 hS (mv rfl) rfl fun a w hS => ?_
    refine st1 hS (bin rfl rfl rfl) rfl fun a w hS => ?_
    refine wpList_nil ?_
    refine then_n ?_
    refine s_cond hS rfl hM (fun hb2326 hM => ?_) (fun hb2326 hM => ?_)
    · refine wp_region_list ?_
      refine st1 hS (mv rfl) rfl fun a w hS => ?_
      refine st1 hS (mv rfl) rfl fun a w hS => ?_
      refine st1 hS (capN rfl Try.runUnderlying22) rfl fun a w hS => ?_
      refine st1 hS (slN rfl Try.runUnderlying22 Try.sizeOf3 (hiS rfl)) rfl fun a w hS => ?_
      refine st1 hS (mv rfl) rfl fun a w hS => ?_
      obtain ⟨hk2327, hM⟩ := wp_chk hM
      refine apG (g := (ci .i64)) hS rfl rfl Try.runUnderlying22 Try.runUnderlying3 X.el3 rfl rfl hk2327 rfl fun w A2328 c2329 f2330 hV2331 hc2332 hA2333 hS => ?_
      refine st1 hS (mv rfl) rfl fun a w hS => ?_
      refine st1 hS (lenV rfl Try.runUnderlying22) rfl fun a w hS => ?_
      refine st1 hS (slG rfl Try.runUnderlying22 Try.sizeOf3 (fun _ => hiS rfl) hc2332 hA2333) rfl fun a w hS => ?_
      refine st1 hS (asg rfl) rfl fun a w hS => ?_
      refine wpList_nil ?_
      refine then_n ?_
      refine wp_seq ?_
      refine wp_region_list ?_
      refine st1 hS (mv rfl) rfl fun a w hS => ?_
      refine st1 hS (asg rfl) rfl fun a w hS => ?_
      refine wpList_nil ?_
      refine then_n ?_
      refine wp_ret ?_
      exact s_ret (rs := [4]) hS rfl rfl (hret A2328 c2329 f2330 w hM hV2331 (hS.st.pick [0] (by kernel_rfl)))
    · refine wp_skip ?_
      refine then_n ?_
      refine wp_seq ?_
      refine wp_region_list ?_
      refine st1 hS (mv rfl) rfl fun a w hS => ?_
      refine st1 hS (asg rfl) rfl fun a w hS => ?_
      obtain ⟨f2334, hV2335, hS⟩ := hS.nilV 3 (ci .i64) 1
      refine wpList_nil ?_
      refine then_n ?_
      refine wp_ret ?_
      exact s_ret (rs := [4]) hS rfl rfl (hret none (0) f2334 w hM hV2335 (hS.st.pick [0] (by kernel_rfl)))

theorem slices_Concat___int_int__c {H : Imm} {F : List Frag} {w : World} {R : Ending → World → Prop} {kr : (List Int) → Prop} {kp : Value → Prop} (hG : Gl H) (K : Nat) (slices2295 : List (List Int)) (p2296 : Frag) (A2297 : Option Addr) (c2298 : Nat) (rw2299 : List (Row 1)) (hr2300 : RelL (R_s_int p2296) slices2295 rw2299) (hp2301 : Pl p2296 (Row.v (sz := 1)) A2297 rw2299) (hc2302 : rw2299.length ≤ c2298)
    (hS : St w H [p2296] F) (hm : (slices_Concat___int_int_.m K slices2295).wp kr kp)
    (hret : ∀ (A2386 : Option Addr) (c2387 : Nat) (x2388 : (List Int)) (f2389 : Frag) (w : World), kr x2388 → (Vec 3 (ci .i64) 1 A2386 x2388 c2387 f2389) → St w H [p2296, f2389] F → R (.returned (.slice A2386 x2388.length c2387)) w)
    (hpan : ∀ v w, kp v → St w H [] F → R (.panicked [⟨v, false, false⟩]) w) :
    Calls Try.prog 42 ⟨[.slice A2297 rw2299.length c2298]⟩ w R := by
  refine enter Try.func42 rfl Try.ntmps42 rfl hS fun a w hS => ?_
  have hM := hm; clear hm
  rw [slices_Concat___int_int_.m] at hM
  have hs2303 : ∀ q ∈ p2296, q ∈ p2296 := fun _ h => h
  refine wp_seq ?_
  refine wp_region_list ?_
  refine st1 hS (asg rfl) rfl fun a w hS => ?_
  obtain ⟨f2304, hV2305, hS⟩ := hS.nilV 3 (ci .i64) 1
  refine wpList_nil ?_
  refine then_n ?_
  refine wp_seq ?_
  refine wp_region_list ?_
  refine st1 hS (asg rfl) rfl fun a w hS => ?_
  refine wpList_nil ?_
  refine then_n ?_
  refine seq_joinJ (fun a w => ∃ (size2319 : Int), Ss 36 [] [(0, .slice A2297 rw2299.length c2298), (3, .int .i64 size2319)] H [p2296] F a w ∧ (slices_Concat___int_int_.j2 K slices2295 size2319).wp kr kp) (fun J2320 hJ2320 => ?_) ?_
  · refine wp_seq ?_
    refine wp_region_list ?_
    refine st1 hS (mv rfl) rfl fun a w hS => ?_
    refine st1 hS (ovE (v' := .int .i64 (slices2295.length : Int)) (lenV rfl Try.runUnderlying86) (by rw [hr2300.len])) rfl fun a w hS => ?_
    refine st1 hS (mv rfl) rfl fun a w hS => ?_
    refine wpList_nil ?_
    refine then_n ?_
    refine wp_block ?_
    refine s_loopJ (fun k2308 a w => ∃ (size2306 : Int) (v2307 : Int), Ss 36 [] [(0, .slice A2297 rw2299.length c2298), (3, .int .i64 size2306), (9, .slice A2297 rw2299.length c2298), (10, .int .i64 (slices2295.length : Int)), (11, .int .i64 v2307)] H [p2296] F a w ∧ (slices_Concat___int_int_.l1 K slices2295 k2308 size2306 v2307).wp kr kp) K ?_ ?_ ?_
    · exact ⟨(0 : Int), (0 : Int), hS.to [1] (by kernel_rfl) ⟨rfl, rfl, rfl, rfl, rfl, trivial⟩, hM⟩
    · intro a w hI; obtain ⟨_, _, _, hM⟩ := hI; exact hM
    · intro k2308 a w hI J2318 hJ2318
      obtain ⟨size2306, v2307, hS, hM⟩ := hI
      rw [slices_Concat___int_int_.l1] at hM
      refine wp_seq ?_
      refine wp_region_list ?_
      refine st1 hS (bin rfl rfl rfl) rfl fun a w hS => ?_
      refine wpList_nil ?_
      refine then_n ?_
      refine wp_seq ?_
      refine s_cond hS rfl hM (fun hb2309 hM => ?_) (fun hb2309 hM => ?_)
      · refine wp_skip ?_
        refine then_n ?_
        refine wp_seq ?_
        refine wp_block ?_
        refine wp_seq ?_
        refine wp_region_list ?_
        obtain ⟨hk2310, hM⟩ := wp_chk hM
        refine st1 hS (ixV rfl rfl Try.runUnderlying86 Try.sizeOf22 (hp2301.rd (i := 0) rfl) Row.len rfl (hr2300.inb hk2310)) rfl fun a w hS => ?_
        obtain ⟨A2311, c2312, hw2315, hp2313, hc2314⟩ := hr2300.get hk2310
        refine st1 hS (ldV0 rfl (hp2301.rd (i := 0) rfl) Row.len (hr2300.inb hk2310) (by rw [show Row.v (rd rw2299 v2307) = _ from hw2315]; rfl) Try.isAgg22) rfl fun a w hS => ?_
        refine st1 hS (asg rfl) rfl fun a w hS => ?_
        refine wpList_nil ?_
        refine then_n ?_
        refine wp_seq ?_
        refine wp_region_list ?_
        refine st1 hS (mv rfl) rfl fun a w hS => ?_
        refine st1 hS (mv rfl) rfl fun a w hS => ?_
        refine st1 hS (lenV rfl Try.runUnderlying22) rfl fun a w hS => ?_
        refine st1 hS (bin rfl rfl rfl) rfl fun a w hS => ?_
        refine st1x (v := Value.int .i64) hS (asg rfl) rfl fun size2316 a w hz hS => ?_
        have hM := lt_to hz hM; clear hz
        refine wpList_nil ?_
        refine then_n ?_
        refine wp_seq ?_
        refine wp_region_list ?_
        refine st1 hS (mv rfl) rfl fun a w hS => ?_
        refine st1 hS (bin rfl rfl rfl) rfl fun a w hS => ?_
        refine wpList_nil ?_
        refine then_n ?_
        refine s_cond hS rfl hM (fun hb2317 hM => ?_) (fun hb2317 hM => ?_)
        · refine wp_region_list ?_
          refine st1 hS (mkI rfl Try.runUnderlying9 rfl) rfl fun a w hS => ?_
          refine s_panic hS rfl ?_
          refine blk_pan (then_pan (then_pan (blk_pan (then_pan ?_))))
          exact ⟨hS.ev.defs, hpan _ _ hM hS.st.frame⟩
        · refine wp_skip ?_
          refine blk_n (then_n ?_)
          refine wp_region_list ?_
          refine st1 hS (bin rfl rfl rfl) rfl fun a w hS => ?_
          refine st1 hS (mv rfl) rfl fun a w hS => ?_
          refine wpList_nil ?_
          refine then_n ?_
          exact hJ2318 _ _ ⟨size2316, (w64 (v2307 + (1 : Int))), hS.to [0] (by kernel_rfl) ⟨rfl, rfl, rfl, rfl, rfl, trivial⟩, hM⟩
      · refine wp_exit ?_
        refine then_ex (then_ex (blk_same (then_n ?_)))
        exact hJ2320 _ _ ⟨size2306, hS.to [0] (by kernel_rfl) ⟨rfl, rfl, trivial⟩, hM⟩
  · intro a w hI
    obtain ⟨size2319, hS, hM⟩ := hI
    rw [slices_Concat___int_int_.j2] at hM
    refine wp_seq ?_
    refine wp_region_list ?_
    refine st1 hS (mv rfl) rfl fun a w hS => ?_
    refine s_call hS rfl Try.call46 (slices_Grow___int_int__f5f7_c hG K size2319 (hS.st.part 0 [0] (by kernel_rfl)) (wp_bind hM) (fun A2340 c2341 f2342 w hM h2343 hst => s_back hS.ev hst.appF rfl fun hS => ?_) (fun v w hk hst => s_pan (then_pan (⟨hS.ev.defs, hpan _ _ hk hst.appF.frame⟩))))
    replace hS : Ss _ _ _ H [f2342, p2296] F _ _ := hS
    refine st1 hS (asg rfl) rfl fun a w hS => ?_
    refine wpList_nil ?_
    refine then_n ?_
    refine wp_seq ?_
    refine wp_seq ?_
    refine wp_region_list ?_
    refine st1 hS (mv rfl) rfl fun a w hS => ?_
    refine st1 hS (ovE (v' := .int .i64 (slices2295.length : Int)) (lenV rfl Try.runUnderlying86) (by rw [hr2300.len])) rfl fun a w hS => ?_
    refine st1 hS (mv rfl) rfl fun a w hS => ?_
    refine wpList_nil ?_
    refine then_n ?_
    refine wp_block ?_
    refine s_loopJ (fun k2371 a w => ∃ (A2365 : Option Addr) (c2366 : Nat) (newslice2367 : (List Int)) (f2368 : Frag) (v2370 : Int), Ss 36 [] [(6, .slice A2365 newslice2367.length c2366), (25, .slice A2297 rw2299.length c2298), (26, .int .i64 (slices2295.length : Int)), (27, .int .i64 v2370)] H [p2296, f2368] F a w ∧ (Vec 3 (ci .i64) 1 A2365 newslice2367 c2366 f2368) ∧ (slices_Concat___int_int_.l3 K slices2295 k2371 newslice2367 v2370).wp kr kp) K ?_ ?_ ?_
    · exact ⟨A2340, c2341, ([] : List Int), f2342, (0 : Int), hS.to [1, 0] (by kernel_rfl) ⟨rfl, rfl, rfl, rfl, trivial⟩, h2343, hM⟩
    · intro a w hI; obtain ⟨_, _, _, _, _, _, _, hM⟩ := hI; exact hM
    · intro k2371 a w hI J2385 hJ2385
      obtain ⟨A2365, c2366, newslice2367, f2368, v2370, hS, hV2369, hM⟩ := hI
      rw [slices_Concat___int_int_.l3] at hM
      refine wp_seq ?_
      refine wp_region_list ?_
      refine st1 hS (bin rfl rfl rfl) rfl fun a w hS => ?_
      refine wpList_nil ?_
      refine then_n ?_
      refine wp_seq ?_
      refine s_cond hS rfl hM (fun hb2372 hM => ?_) (fun hb2372 hM => ?_)
      · refine wp_skip ?_
        refine then_n ?_
        refine wp_seq ?_
        refine wp_block ?_
        refine wp_seq ?_
        refine wp_region_list ?_
        obtain ⟨hk2373, hM⟩ := wp_chk hM
        refine st1 hS (ixV rfl rfl Try.runUnderlying86 Try.sizeOf22 (hp2301.rd (i := 0) rfl) Row.len rfl (hr2300.inb hk2373)) rfl fun a w hS => ?_
        obtain ⟨A2374, c2375, hw2378, hp2376, hc2377⟩ := hr2300.get hk2373
        refine st1 hS (ldV0 rfl (hp2301.rd (i := 0) rfl) Row.len (hr2300.inb hk2373) (by rw [show Row.v (rd rw2299 v2370) = _ from hw2378]; rfl) Try.isAgg22) rfl fun a w hS => ?_
        refine st1 hS (asg rfl) rfl fun a w hS => ?_
        refine wpList_nil ?_
        refine then_n ?_
        refine wp_region_list ?_
        refine st1 hS (mv rfl) rfl fun a w hS => ?_
        refine st1 hS (mv rfl) rfl fun a w hS => ?_
        obtain ⟨hk2379, hM⟩ := wp_chk hM
        refine apV (ys := (rd slices2295 v2370)) 1 hS rfl rfl hV2369 rfl (hp2376.rd (i := 0) rfl) Try.runUnderlying22 Try.runUnderlying22 X.el3 (fun _ => rfl) rfl one_t3 hk2379 rfl fun zs2384 w A2380 c2381 f2382 hz hV2383 hS => ?_
        have hM := lt_to hz hM; clear hz
        refine st1 hS (asg rfl) rfl fun a w hS => ?_
        refine wpList_nil ?_
        refine blk_n (then_n ?_)
        refine wp_region_list ?_
        refine st1 hS (bin rfl rfl rfl) rfl fun a w hS => ?_
        refine st1 hS (mv rfl) rfl fun a w hS => ?_
        refine wpList_nil ?_
        refine then_n ?_
        exact hJ2385 _ _ ⟨A2380, c2381, zs2384, f2382, (w64 (v2370 + (1 : Int))), hS.to [0, 1] (by kernel_rfl) ⟨rfl, rfl, rfl, rfl, trivial⟩, hV2383, hM⟩
      · refine wp_exit ?_
        refine then_ex (then_ex (blk_same (then_n ?_)))
        refine wp_seq ?_
        refine wp_region_list ?_
        refine st1 hS (mv rfl) rfl fun a w hS => ?_
        refine st1 hS (asg rfl) rfl fun a w hS => ?_
        refine wpList_nil ?_
        refine then_n ?_
        refine wp_ret ?_
        exact s_ret (rs := [2]) hS rfl rfl (hret A2365 c2366 newslice2367 f2368 w hM hV2369 (hS.st.pick [0, 1] (by kernel_rfl)))

theorem huff_pairs_c {H : Imm} {F : List Frag} {w : World} {R : Ending → World → Prop} {kr : (List T_huff_packet) → Prop} {kp : Value → Prop} (hG : Gl H) (K : Nat) (l_2242 : List T_huff_packet) (p2243 : Frag) (A2244 : Option Addr) (c2245 : Nat) (rw2246 : List (Row 2)) (hr2247 : RelL (R_huff_packet p2243) l_2242 rw2246) (hp2248 : Pl p2243 (Row.v (sz := 2)) A2244 rw2246) (hc2249 : rw2246.length ≤ c2245)
    (hS : St w H [p2243] F) (hm : (huff_pairs.m K l_2242).wp kr kp)
    (hret : ∀ (p2505 : Frag) (A2507 : Option Addr) (c2508 : Nat) (rw2509 : List (Row 2)) (x2510 : (List T_huff_packet)) (f2511 : Frag) (w : World), kr x2510 → (∀ q ∈ p2243, q ∈ p2505) → (Vec 70 (Row.v (sz := 2)) 2 A2507 rw2509 c2508 f2511) → (RelL (R_huff_packet p2505) x2510 rw2509) → St w H [p2505, f2511] F → R (.returned (.slice A2507 rw2509.length c2508)) w)
    (hpan : ∀ v w, kp v → St w H [] F → R (.panicked [⟨v, false, false⟩]) w) :
    Calls Try.prog 36 ⟨[.slice A2244 rw2246.length c2245]⟩ w R := by
  refine enter Try.func36 rfl Try.ntmps36 rfl hS fun a w hS => ?_
  have hM := hm; clear hm
  rw [huff_pairs.m] at hM
  have hs2250 : ∀ q ∈ p2243, q ∈ p2243 := fun _ h => h
  refine wp_seq ?_
  refine wp_region_list ?_
  refine st1 hS (asg rfl) rfl fun a w hS => ?_
  obtain ⟨f2251, hV2252, hS⟩ := hS.nilV 70 (Row.v (sz := 2)) 2
  have hr2253 : RelL (R_huff_packet p2243) ([] : List T_huff_packet) ([] : List (Row 2)) := RelL.nil
  refine wpList_nil ?_
  refine then_n ?_
  refine wp_seq ?_
  refine wp_region_list ?_
  refine st1 hS (asg rfl) rfl fun a w hS => ?_
  obtain ⟨f2254, hV2255, hS⟩ := hS.nilV 70 (Row.v (sz := 2)) 2
  have hr2256 : RelL (R_huff_packet p2243) ([] : List T_huff_packet) ([] : List (Row 2)) := RelL.nil
  refine wpList_nil ?_
  refine then_n ?_
  refine wp_seq ?_
  refine wp_seq ?_
  refine wp_region_list ?_
  refine st1 hS (asg rfl) rfl fun a w hS => ?_
  refine wpList_nil ?_
  refine then_n ?_
  refine wp_block ?_
  refine s_loopJ (fun k2442 a w => ∃ (p2429 : Frag) (A2434 : Option Addr) (c2435 : Nat) (rw2436 : List (Row 2)) (out2437 : (List T_huff_packet)) (f2438 : Frag) (i2441 : Int), Ss 42 [] [(0, .slice A2244 rw2246.length c2245), (3, .slice A2434 rw2436.length c2435), (4, .int .i64 i2441)] H [p2429, f2438] F a w ∧ (∀ q ∈ p2243, q ∈ p2429) ∧ (RelL (R_huff_packet p2429) l_2242 rw2246) ∧ (Pl p2429 (Row.v (sz := 2)) A2244 rw2246) ∧ (rw2246.length ≤ c2245) ∧ (Vec 70 (Row.v (sz := 2)) 2 A2434 rw2436 c2435 f2438) ∧ (RelL (R_huff_packet p2429) out2437 rw2436) ∧ (huff_pairs.l1 K l_2242 k2442 out2437 i2441).wp kr kp) K ?_ ?_ ?_
  · exact ⟨p2243, none, 0, ([] : List (Row 2)), ([] : List T_huff_packet), f2254, (0 : Int), hS.to [2, 0] (by kernel_rfl) ⟨rfl, rfl, rfl, trivial⟩, hs2250, hr2247, hp2248, hc2249, hV2255, hr2256, hM⟩
  · intro a w hI; obtain ⟨_, _, _, _, _, _, _, _, _, _, _, _, _, _, hM⟩ := hI; exact hM
  · intro k2442 a w hI J2504 hJ2504
    obtain ⟨p2429, A2434, c2435, rw2436, out2437, f2438, i2441, hS, hs2430, hr2431, hp2432, hc2433, hV2439, hr2440, hM⟩ := hI
    rw [huff_pairs.l1] at hM
    refine wp_seq ?_
    refine wp_seq ?_
    refine wp_region_list ?_
    refine st1 hS (mv rfl) rfl fun a w hS => ?_
    refine st1 hS (bin rfl rfl rfl) rfl fun a w hS => ?_
    refine st1 hS (mv rfl) rfl fun a w hS => ?_
    refine st1 hS (ovE (v' := .int .i64 (l_2242.length : Int)) (lenV rfl Try.runUnderlying68) (by rw [hr2431.len])) rfl fun a w hS => ?_
    refine st1 hS (bin rfl rfl rfl) rfl fun a w hS => ?_
    refine wpList_nil ?_
    refine then_n ?_
    refine s_cond hS rfl hM (fun hb2443 hM => ?_) (fun hb2443 hM => ?_)
    · refine wp_skip ?_
      refine then_n ?_
      refine wp_seq ?_
      refine wp_block ?_
      obtain ⟨hk2445, hM⟩ := wp_chk hM
      obtain ⟨A2446, c2447, hw2450, hp2448, hc2449⟩ := hr2431.get hk2445
      obtain ⟨hk2452, hM⟩ := wp_chk hM
      obtain ⟨A2453, c2454, hw2457, hp2455, hc2456⟩ := hr2431.get hk2452
      obtain ⟨A2458, c2459, hw2462, hp2460, hc2461⟩ := hr2431.get hk2445
      obtain ⟨A2463, c2464, hw2467, hp2465, hc2466⟩ := hr2431.get hk2452
      refine draw_begin (vals := [some (.slice A2434 rw2436.length c2435), some (.slice A2244 rw2246.length c2245), some (.int .i64 i2441), some (slp A2244 (Int.toNat i2441 * 2)), some (slp A2244 (Int.toNat i2441 * 2 + 0)), some (.int .i64 ((rd l_2242 i2441).often_)), some (.slice A2244 rw2246.length c2245), some (.int .i64 i2441), some (.int .i64 (w64 (i2441 + (1 : Int)))), some (slp A2244 (Int.toNat (w64 (i2441 + (1 : Int))) * 2)), some (slp A2244 (Int.toNat (w64 (i2441 + (1 : Int))) * 2 + 0)), some (.int .i64 ((rd l_2242 (w64 (i2441 + (1 : Int)))).often_)), some (.int .i64 (w64 ((rd l_2242 i2441).often_ + (rd l_2242 (w64 (i2441 + (1 : Int)))).often_))), some (.slice A2244 rw2246.length c2245), some (.int .i64 i2441), some (slp A2244 (Int.toNat i2441 * 2)), some (slp A2244 (Int.toNat i2441 * 2 + 1)), some (.slice A2458 ((rd l_2242 i2441).symbols_).length c2459), some (.slice A2244 rw2246.length c2245), some (.int .i64 i2441), some (.int .i64 (w64 (i2441 + (1 : Int)))), some (slp A2244 (Int.toNat (w64 (i2441 + (1 : Int))) * 2)), some (slp A2244 (Int.toNat (w64 (i2441 + (1 : Int))) * 2 + 1)), some (.slice A2463 ((rd l_2242 (w64 (i2441 + (1 : Int)))).symbols_).length c2464), none, none, none, none, none, none]) hS mixed rfl ?_
      intro l w ho hcl hA hst
      refine phase' (vals := [some (.slice A2434 rw2436.length c2435), some (.slice A2244 rw2246.length c2245), some (.int .i64 i2441), some (slp A2244 (Int.toNat i2441 * 2)), some (slp A2244 (Int.toNat i2441 * 2 + 0)), some (.int .i64 ((rd l_2242 i2441).often_)), some (.slice A2244 rw2246.length c2245), some (.int .i64 i2441), some (.int .i64 (w64 (i2441 + (1 : Int)))), some (slp A2244 (Int.toNat (w64 (i2441 + (1 : Int))) * 2)), some (slp A2244 (Int.toNat (w64 (i2441 + (1 : Int))) * 2 + 0)), some (.int .i64 ((rd l_2242 (w64 (i2441 + (1 : Int)))).often_)), some (.int .i64 (w64 ((rd l_2242 i2441).often_ + (rd l_2242 (w64 (i2441 + (1 : Int)))).often_))), some (.slice A2244 rw2246.length c2245), some (.int .i64 i2441), some (slp A2244 (Int.toNat i2441 * 2)), some (slp A2244 (Int.toNat i2441 * 2 + 1)), some (.slice A2458 ((rd l_2242 i2441).symbols_).length c2459), some (.slice A2244 rw2246.length c2245), some (.int .i64 i2441), some (.int .i64 (w64 (i2441 + (1 : Int)))), some (slp A2244 (Int.toNat (w64 (i2441 + (1 : Int))) * 2)), some (slp A2244 (Int.toNat (w64 (i2441 + (1 : Int))) * 2 + 1)), some (.slice A2463 ((rd l_2242 (w64 (i2441 + (1 : Int)))).symbols_).length c2464), none, none, none, none, none, none]) 24 [] [0, 1, 2, 3, 4, 5, 6, 7, 8, 9, 10, 11, 12, 13, 14, 15, 16, 17, 18, 19, 20, 21, 22, 23] rfl rfl rfl rfl (by exact ⟨nR rfl rfl rfl rfl rfl (by exact ovE (mv rfl) rfl), nR rfl rfl rfl rfl rfl (by exact ovE (mv rfl) rfl), nR rfl rfl rfl rfl rfl (by exact ovE (mv rfl) rfl), nR rfl rfl rfl rfl rfl (by exact ovE (ixV rfl rfl Try.runUnderlying68 Try.sizeOf70 (hp2432.rd (i := 0) rfl) Row.len rfl (hr2431.inb hk2445)) rfl), nR rfl rfl rfl rfl rfl (by exact ovE (fadV rfl (hp2432.rd (i := 0) rfl) Row.len rfl (hr2431.inb hk2445) Try.runUnderlying70 rfl Try.sizeOf3 rfl) rfl), nR rfl rfl rfl rfl rfl (by exact ovE (ldV 0 rfl (hp2432.rd (i := 0) rfl) Row.len (hr2431.inb hk2445) (by rw [show Row.v (rd rw2246 i2441) = _ from hw2450]; rfl) Try.isAgg3) rfl), nR rfl rfl rfl rfl rfl (by exact ovE (mv rfl) rfl), nR rfl rfl rfl rfl rfl (by exact ovE (mv rfl) rfl), nR rfl rfl rfl rfl rfl (by exact ovE (bin rfl rfl rfl) rfl), nR rfl rfl rfl rfl rfl (by exact ovE (ixV rfl rfl Try.runUnderlying68 Try.sizeOf70 (hp2432.rd (i := 0) rfl) Row.len rfl (hr2431.inb hk2452)) rfl), nR rfl rfl rfl rfl rfl (by exact ovE (fadV rfl (hp2432.rd (i := 0) rfl) Row.len rfl (hr2431.inb hk2452) Try.runUnderlying70 rfl Try.sizeOf3 rfl) rfl), nR rfl rfl rfl rfl rfl (by exact ovE (ldV 0 rfl (hp2432.rd (i := 0) rfl) Row.len (hr2431.inb hk2452) (by rw [show Row.v (rd rw2246 (w64 (i2441 + (1 : Int)))) = _ from hw2457]; rfl) Try.isAgg3) rfl), nR rfl rfl rfl rfl rfl (by exact ovE (bin rfl rfl rfl) rfl), nR rfl rfl rfl rfl rfl (by exact ovE (mv rfl) rfl), nR rfl rfl rfl rfl rfl (by exact ovE (mv rfl) rfl), nR rfl rfl rfl rfl rfl (by exact ovE (ixV rfl rfl Try.runUnderlying68 Try.sizeOf70 (hp2432.rd (i := 0) rfl) Row.len rfl (hr2431.inb hk2445)) rfl), nR rfl rfl rfl rfl rfl (by exact ovE (fadV rfl (hp2432.rd (i := 0) rfl) Row.len rfl (hr2431.inb hk2445) Try.runUnderlying70 rfl Try.sizeOf22 rfl) rfl), nR rfl rfl rfl rfl rfl (by exact ovE (ldV 1 rfl (hp2432.rd (i := 0) rfl) Row.len (hr2431.inb hk2445) (by rw [show Row.v (rd rw2246 i2441) = _ from hw2462]; rfl) Try.isAgg22) rfl), nR rfl rfl rfl rfl rfl (by exact ovE (mv rfl) rfl), nR rfl rfl rfl rfl rfl (by exact ovE (mv rfl) rfl), nR rfl rfl rfl rfl rfl (by exact ovE (bin rfl rfl rfl) rfl), nR rfl rfl rfl rfl rfl (by exact ovE (ixV rfl rfl Try.runUnderlying68 Try.sizeOf70 (hp2432.rd (i := 0) rfl) Row.len rfl (hr2431.inb hk2452)) rfl), nR rfl rfl rfl rfl rfl (by exact ovE (fadV rfl (hp2432.rd (i := 0) rfl) Row.len rfl (hr2431.inb hk2452) Try.runUnderlying70 rfl Try.sizeOf22 rfl) rfl), nR rfl rfl rfl rfl rfl (by exact ovE (ldV 1 rfl (hp2432.rd (i := 0) rfl) Row.len (hr2431.inb hk2452) (by rw [show Row.v (rd rw2246 (w64 (i2441 + (1 : Int)))) = _ from hw2467]; rfl) Try.isAgg22) rfl), trivial⟩) (fun D l a w ho hcl hav hpre hm hE hk hA hst => ?_) ho hcl (fun j hj => (List.not_mem_nil hj).elim) (fun m hm => (List.not_mem_nil hm).elim) List.not_mem_nil hA hst
      have hS := (Ss.mk hE hst).env2 (e' := [(29, .slice A2458 ((rd l_2242 i2441).symbols_).length c2459), (35, .slice A2463 ((rd l_2242 (w64 (i2441 + (1 : Int)))).symbols_).length c2464)]) ⟨rfl, rfl, trivial⟩
      refine op_of_nth rfl ?_
      obtain ⟨rw2473, hrw⟩ : ∃ r, r = ([(⟨[.slice A2458 ((rd l_2242 i2441).symbols_).length c2459], by simp, by simp [Value.oneCell']⟩ : Row 1), (⟨[.slice A2463 ((rd l_2242 (w64 (i2441 + (1 : Int)))).symbols_).length c2464], by simp, by simp [Value.oneCell']⟩ : Row 1)] : List (Row 1)) := ⟨_, rfl⟩
      have hr2472 : RelL (R_s_int p2429) ([(rd l_2242 i2441).symbols_, (rd l_2242 (w64 (i2441 + (1 : Int)))).symbols_] : List (List Int)) rw2473 := by rw [hrw]; exact (RelL.cons (show R_s_int p2429 _ _ from ⟨A2458, c2459, rfl, hp2460, hc2461⟩) (RelL.cons (show R_s_int p2429 _ _ from ⟨A2463, c2464, rfl, hp2465, hc2466⟩) RelL.nil))
      refine bsl (g := (Row.v (sz := 1))) rw2473 [.slice A2458 ((rd l_2242 i2441).symbols_).length c2459, .slice A2463 ((rd l_2242 (w64 (i2441 + (1 : Int)))).symbols_).length c2464] hS Try.runUnderlying86 Try.sizeOf22 X.el22 rfl rfl rfl (by simp [Value.cells]) (by rw [hrw]; rfl) (by rw [hrw]; rfl) rfl rfl rfl fun w A2468 c2469 f2470 hV2471 hS => ?_
      clear hrw
      refine wpList_nil (then_n ?_)
      have hcl2 := hcl.cons (k := 24) (nth_get rfl) hpre
      have hmust := must_cons (k := 24) hm (chain (k := 24) hcl (nth_get rfl) hpre [(17, 24), (23, 24), (16, 17), (22, 23), (15, 16), (21, 22), (13, 15), (14, 15), (18, 21), (20, 21), (19, 20)] [] rfl (fun _ h => absurd h List.not_mem_nil))
      replace hst := hS.st
      have hav2 := hav.cons (vals' := [some (.slice A2434 rw2436.length c2435), some (.slice A2244 rw2246.length c2245), some (.int .i64 i2441), some (slp A2244 (Int.toNat i2441 * 2)), some (slp A2244 (Int.toNat i2441 * 2 + 0)), some (.int .i64 ((rd l_2242 i2441).often_)), some (.slice A2244 rw2246.length c2245), some (.int .i64 i2441), some (.int .i64 (w64 (i2441 + (1 : Int)))), some (slp A2244 (Int.toNat (w64 (i2441 + (1 : Int))) * 2)), some (slp A2244 (Int.toNat (w64 (i2441 + (1 : Int))) * 2 + 0)), some (.int .i64 ((rd l_2242 (w64 (i2441 + (1 : Int)))).often_)), some (.int .i64 (w64 ((rd l_2242 i2441).often_ + (rd l_2242 (w64 (i2441 + (1 : Int)))).often_))), some (.slice A2244 rw2246.length c2245), some (.int .i64 i2441), some (slp A2244 (Int.toNat i2441 * 2)), some (slp A2244 (Int.toNat i2441 * 2 + 1)), some (.slice A2458 ((rd l_2242 i2441).symbols_).length c2459), some (.slice A2244 rw2246.length c2245), some (.int .i64 i2441), some (.int .i64 (w64 (i2441 + (1 : Int)))), some (slp A2244 (Int.toNat (w64 (i2441 + (1 : Int))) * 2)), some (slp A2244 (Int.toNat (w64 (i2441 + (1 : Int))) * 2 + 1)), some (.slice A2463 ((rd l_2242 (w64 (i2441 + (1 : Int)))).symbols_).length c2464), some (.slice A2468 rw2473.length c2469), none, none, none, none, none]) (k := 24) ⟨rfl, rfl, rfl, rfl, rfl, rfl, rfl, rfl, rfl, rfl, rfl, rfl, rfl, rfl, rfl, rfl, rfl, rfl, rfl, rfl, rfl, rfl, rfl, rfl, trivial⟩ rfl
      replace hA := (hA.next hav (subV.get (l' := [some (.slice A2434 rw2436.length c2435), some (.slice A2244 rw2246.length c2245), some (.int .i64 i2441), some (slp A2244 (Int.toNat i2441 * 2)), some (slp A2244 (Int.toNat i2441 * 2 + 0)), some (.int .i64 ((rd l_2242 i2441).often_)), some (.slice A2244 rw2246.length c2245), some (.int .i64 i2441), some (.int .i64 (w64 (i2441 + (1 : Int)))), some (slp A2244 (Int.toNat (w64 (i2441 + (1 : Int))) * 2)), some (slp A2244 (Int.toNat (w64 (i2441 + (1 : Int))) * 2 + 0)), some (.int .i64 ((rd l_2242 (w64 (i2441 + (1 : Int)))).often_)), some (.int .i64 (w64 ((rd l_2242 i2441).often_ + (rd l_2242 (w64 (i2441 + (1 : Int)))).often_))), some (.slice A2244 rw2246.length c2245), some (.int .i64 i2441), some (slp A2244 (Int.toNat i2441 * 2)), some (slp A2244 (Int.toNat i2441 * 2 + 1)), some (.slice A2458 ((rd l_2242 i2441).symbols_).length c2459), some (.slice A2244 rw2246.length c2245), some (.int .i64 i2441), some (.int .i64 (w64 (i2441 + (1 : Int)))), some (slp A2244 (Int.toNat (w64 (i2441 + (1 : Int))) * 2)), some (slp A2244 (Int.toNat (w64 (i2441 + (1 : Int))) * 2 + 1)), some (.slice A2463 ((rd l_2242 (w64 (i2441 + (1 : Int)))).symbols_).length c2464), some (.slice A2468 rw2473.length c2469), none, none, none, none, none]) ⟨rfl, rfl, rfl, rfl, rfl, rfl, rfl, rfl, rfl, rfl, rfl, rfl, rfl, rfl, rfl, rfl, rfl, rfl, rfl, rfl, rfl, rfl, rfl, rfl, trivial⟩)).step rfl (nth_get rfl) hk rfl rfl rfl
      clear hm hav
      replace hcl := hcl2
      refine phase' (vals := [some (.slice A2434 rw2436.length c2435), some (.slice A2244 rw2246.length c2245), some (.int .i64 i2441), some (slp A2244 (Int.toNat i2441 * 2)), some (slp A2244 (Int.toNat i2441 * 2 + 0)), some (.int .i64 ((rd l_2242 i2441).often_)), some (.slice A2244 rw2246.length c2245), some (.int .i64 i2441), some (.int .i64 (w64 (i2441 + (1 : Int)))), some (slp A2244 (Int.toNat (w64 (i2441 + (1 : Int))) * 2)), some (slp A2244 (Int.toNat (w64 (i2441 + (1 : Int))) * 2 + 0)), some (.int .i64 ((rd l_2242 (w64 (i2441 + (1 : Int)))).often_)), some (.int .i64 (w64 ((rd l_2242 i2441).often_ + (rd l_2242 (w64 (i2441 + (1 : Int)))).often_))), some (.slice A2244 rw2246.length c2245), some (.int .i64 i2441), some (slp A2244 (Int.toNat i2441 * 2)), some (slp A2244 (Int.toNat i2441 * 2 + 1)), some (.slice A2458 ((rd l_2242 i2441).symbols_).length c2459), some (.slice A2244 rw2246.length c2245), some (.int .i64 i2441), some (.int .i64 (w64 (i2441 + (1 : Int)))), some (slp A2244 (Int.toNat (w64 (i2441 + (1 : Int))) * 2)), some (slp A2244 (Int.toNat (w64 (i2441 + (1 : Int))) * 2 + 1)), some (.slice A2463 ((rd l_2242 (w64 (i2441 + (1 : Int)))).symbols_).length c2464), some (.slice A2468 rw2473.length c2469), none, none, none, none, none]) 25 [24, 17, 23, 16, 22, 15, 21, 13, 14, 18, 20, 19] [0, 1, 2, 3, 4, 5, 6, 7, 8, 9, 10, 11, 12] rfl rfl rfl rfl (by exact ⟨nR rfl rfl rfl rfl rfl (by exact ovE (mv rfl) rfl), nR rfl rfl rfl rfl rfl (by exact ovE (mv rfl) rfl), nR rfl rfl rfl rfl rfl (by exact ovE (mv rfl) rfl), nR rfl rfl rfl rfl rfl (by exact ovE (ixV rfl rfl Try.runUnderlying68 Try.sizeOf70 (hp2432.rd (i := 1) rfl) Row.len rfl (hr2431.inb hk2445)) rfl), nR rfl rfl rfl rfl rfl (by exact ovE (fadV rfl (hp2432.rd (i := 1) rfl) Row.len rfl (hr2431.inb hk2445) Try.runUnderlying70 rfl Try.sizeOf3 rfl) rfl), nR rfl rfl rfl rfl rfl (by exact ovE (ldV 0 rfl (hp2432.rd (i := 1) rfl) Row.len (hr2431.inb hk2445) (by rw [show Row.v (rd rw2246 i2441) = _ from hw2450]; rfl) Try.isAgg3) rfl), nR rfl rfl rfl rfl rfl (by exact ovE (mv rfl) rfl), nR rfl rfl rfl rfl rfl (by exact ovE (mv rfl) rfl), nR rfl rfl rfl rfl rfl (by exact ovE (bin rfl rfl rfl) rfl), nR rfl rfl rfl rfl rfl (by exact ovE (ixV rfl rfl Try.runUnderlying68 Try.sizeOf70 (hp2432.rd (i := 1) rfl) Row.len rfl (hr2431.inb hk2452)) rfl), nR rfl rfl rfl rfl rfl (by exact ovE (fadV rfl (hp2432.rd (i := 1) rfl) Row.len rfl (hr2431.inb hk2452) Try.runUnderlying70 rfl Try.sizeOf3 rfl) rfl), nR rfl rfl rfl rfl rfl (by exact ovE (ldV 0 rfl (hp2432.rd (i := 1) rfl) Row.len (hr2431.inb hk2452) (by rw [show Row.v (rd rw2246 (w64 (i2441 + (1 : Int)))) = _ from hw2457]; rfl) Try.isAgg3) rfl), nR rfl rfl rfl rfl rfl (by exact ovE (bin rfl rfl rfl) rfl), trivial⟩) (fun D l a w ho hcl hav hpre hm hE hk hA hst => ?_) ho hcl hav2 hmust (hav2.notin rfl) hA hst
      have hS := (Ss.mk hE hst).env2 (e' := [(36, .slice A2468 rw2473.length c2469)]) ⟨rfl, trivial⟩
      refine op_of_nth rfl ?_
      replace hS := hS.front [0, 1, 2] (by kernel_rfl)
      obtain ⟨p2474, hs2475, hs2476, hS⟩ := hS.poolF
      have hc2478 := hV2471.cap Row.len rfl
      have hp2477 := hV2471.pl.mono hs2475
      replace hp2432 := hp2432.mono hs2476
      replace hp2460 := hp2460.mono hs2476
      replace hp2465 := hp2465.mono hs2476
      replace hr2431 := RelL.mono (fun _ _ h => R_huff_packet.mono hs2476 h) hr2431
      replace hr2440 := RelL.mono (fun _ _ h => R_huff_packet.mono hs2476 h) hr2440
      replace hr2472 := RelL.mono (fun _ _ h => R_s_int.mono hs2476 h) hr2472
      replace hs2430 := fun q h => hs2476 q (hs2430 q h)
      refine s_call hS rfl Try.call42 (slices_Concat___int_int__c hG K ([(rd l_2242 i2441).symbols_, (rd l_2242 (w64 (i2441 + (1 : Int)))).symbols_] : List (List Int)) p2474 A2468 c2469 rw2473 hr2472 hp2477 hc2478 (hS.st.part 1 [0, 1] (by kernel_rfl)) (wp_bind hM) (fun A2479 c2480 x2481 f2482 w hM h2483 hst => s_back hS.ev hst.appF rfl fun hS => ?_) (fun v w hk hst => s_pan (then_pan (blk_pan (then_pan (then_pan (blk_pan (then_pan (⟨hS.ev.defs, hpan _ _ hk hst.appF.frame⟩)))))))))
      replace hS : Ss _ _ _ H [p2474, f2482, f2438] F _ _ := hS
      refine wpList_nil (then_n ?_)
      have hcl2 := hcl.cons (k := 25) (nth_get rfl) hpre
      have hmust := must_cons (k := 25) hm (chain (k := 25) hcl (nth_get rfl) hpre [(24, 25), (17, 24), (23, 24), (16, 17), (22, 23), (15, 16), (21, 22), (13, 15), (14, 15), (18, 21), (20, 21), (19, 20)] [] rfl (fun _ h => absurd h List.not_mem_nil))
      replace hst := hS.st
      have hav2 := hav.cons (vals' := [some (.slice A2434 rw2436.length c2435), some (.slice A2244 rw2246.length c2245), some (.int .i64 i2441), some (slp A2244 (Int.toNat i2441 * 2)), some (slp A2244 (Int.toNat i2441 * 2 + 0)), some (.int .i64 ((rd l_2242 i2441).often_)), some (.slice A2244 rw2246.length c2245), some (.int .i64 i2441), some (.int .i64 (w64 (i2441 + (1 : Int)))), some (slp A2244 (Int.toNat (w64 (i2441 + (1 : Int))) * 2)), some (slp A2244 (Int.toNat (w64 (i2441 + (1 : Int))) * 2 + 0)), some (.int .i64 ((rd l_2242 (w64 (i2441 + (1 : Int)))).often_)), some (.int .i64 (w64 ((rd l_2242 i2441).often_ + (rd l_2242 (w64 (i2441 + (1 : Int)))).often_))), some (.slice A2244 rw2246.length c2245), some (.int .i64 i2441), some (slp A2244 (Int.toNat i2441 * 2)), some (slp A2244 (Int.toNat i2441 * 2 + 1)), some (.slice A2458 ((rd l_2242 i2441).symbols_).length c2459), some (.slice A2244 rw2246.length c2245), some (.int .i64 i2441), some (.int .i64 (w64 (i2441 + (1 : Int)))), some (slp A2244 (Int.toNat (w64 (i2441 + (1 : Int))) * 2)), some (slp A2244 (Int.toNat (w64 (i2441 + (1 : Int))) * 2 + 1)), some (.slice A2463 ((rd l_2242 (w64 (i2441 + (1 : Int)))).symbols_).length c2464), some (.slice A2468 rw2473.length c2469), some (.slice A2479 x2481.length c2480), some (.agg ⟨[.int .i64 (w64 ((rd l_2242 i2441).often_ + (rd l_2242 (w64 (i2441 + (1 : Int)))).often_)), .slice A2479 x2481.length c2480]⟩), none, none, none]) (k := 25) ⟨rfl, rfl, rfl, rfl, rfl, rfl, rfl, rfl, rfl, rfl, rfl, rfl, rfl, rfl, rfl, rfl, rfl, rfl, rfl, rfl, rfl, rfl, rfl, rfl, rfl, trivial⟩ rfl
      replace hA := (hA.next hav (subV.get (l' := [some (.slice A2434 rw2436.length c2435), some (.slice A2244 rw2246.length c2245), some (.int .i64 i2441), some (slp A2244 (Int.toNat i2441 * 2)), some (slp A2244 (Int.toNat i2441 * 2 + 0)), some (.int .i64 ((rd l_2242 i2441).often_)), some (.slice A2244 rw2246.length c2245), some (.int .i64 i2441), some (.int .i64 (w64 (i2441 + (1 : Int)))), some (slp A2244 (Int.toNat (w64 (i2441 + (1 : Int))) * 2)), some (slp A2244 (Int.toNat (w64 (i2441 + (1 : Int))) * 2 + 0)), some (.int .i64 ((rd l_2242 (w64 (i2441 + (1 : Int)))).often_)), some (.int .i64 (w64 ((rd l_2242 i2441).often_ + (rd l_2242 (w64 (i2441 + (1 : Int)))).often_))), some (.slice A2244 rw2246.length c2245), some (.int .i64 i2441), some (slp A2244 (Int.toNat i2441 * 2)), some (slp A2244 (Int.toNat i2441 * 2 + 1)), some (.slice A2458 ((rd l_2242 i2441).symbols_).length c2459), some (.slice A2244 rw2246.length c2245), some (.int .i64 i2441), some (.int .i64 (w64 (i2441 + (1 : Int)))), some (slp A2244 (Int.toNat (w64 (i2441 + (1 : Int))) * 2)), some (slp A2244 (Int.toNat (w64 (i2441 + (1 : Int))) * 2 + 1)), some (.slice A2463 ((rd l_2242 (w64 (i2441 + (1 : Int)))).symbols_).length c2464), some (.slice A2468 rw2473.length c2469), some (.slice A2479 x2481.length c2480), some (.agg ⟨[.int .i64 (w64 ((rd l_2242 i2441).often_ + (rd l_2242 (w64 (i2441 + (1 : Int)))).often_)), .slice A2479 x2481.length c2480]⟩), none, none, none]) ⟨rfl, rfl, rfl, rfl, rfl, rfl, rfl, rfl, rfl, rfl, rfl, rfl, rfl, rfl, rfl, rfl, rfl, rfl, rfl, rfl, rfl, rfl, rfl, rfl, rfl, trivial⟩)).step rfl (nth_get rfl) hk rfl rfl rfl
      clear hm hav
      replace hcl := hcl2
      refine phase' (vals := [some (.slice A2434 rw2436.length c2435), some (.slice A2244 rw2246.length c2245), some (.int .i64 i2441), some (slp A2244 (Int.toNat i2441 * 2)), some (slp A2244 (Int.toNat i2441 * 2 + 0)), some (.int .i64 ((rd l_2242 i2441).often_)), some (.slice A2244 rw2246.length c2245), some (.int .i64 i2441), some (.int .i64 (w64 (i2441 + (1 : Int)))), some (slp A2244 (Int.toNat (w64 (i2441 + (1 : Int))) * 2)), some (slp A2244 (Int.toNat (w64 (i2441 + (1 : Int))) * 2 + 0)), some (.int .i64 ((rd l_2242 (w64 (i2441 + (1 : Int)))).often_)), some (.int .i64 (w64 ((rd l_2242 i2441).often_ + (rd l_2242 (w64 (i2441 + (1 : Int)))).often_))), some (.slice A2244 rw2246.length c2245), some (.int .i64 i2441), some (slp A2244 (Int.toNat i2441 * 2)), some (slp A2244 (Int.toNat i2441 * 2 + 1)), some (.slice A2458 ((rd l_2242 i2441).symbols_).length c2459), some (.slice A2244 rw2246.length c2245), some (.int .i64 i2441), some (.int .i64 (w64 (i2441 + (1 : Int)))), some (slp A2244 (Int.toNat (w64 (i2441 + (1 : Int))) * 2)), some (slp A2244 (Int.toNat (w64 (i2441 + (1 : Int))) * 2 + 1)), some (.slice A2463 ((rd l_2242 (w64 (i2441 + (1 : Int)))).symbols_).length c2464), some (.slice A2468 rw2473.length c2469), some (.slice A2479 x2481.length c2480), some (.agg ⟨[.int .i64 (w64 ((rd l_2242 i2441).often_ + (rd l_2242 (w64 (i2441 + (1 : Int)))).often_)), .slice A2479 x2481.length c2480]⟩), none, none, none]) 27 [25, 24, 17, 23, 16, 22, 15, 21, 13, 14, 18, 20, 19, 24, 17, 23, 16, 22, 15, 21, 13, 14, 18, 20, 19] [0, 1, 2, 3, 4, 5, 6, 7, 8, 9, 10, 11, 12, 26] rfl rfl rfl rfl (by exact ⟨nR rfl rfl rfl rfl rfl (by exact ovE (mv rfl) rfl), nR rfl rfl rfl rfl rfl (by exact ovE (mv rfl) rfl), nR rfl rfl rfl rfl rfl (by exact ovE (mv rfl) rfl), nR rfl rfl rfl rfl rfl (by exact ovE (ixV rfl rfl Try.runUnderlying68 Try.sizeOf70 (hp2432.rd (i := 0) rfl) Row.len rfl (hr2431.inb hk2445)) rfl), nR rfl rfl rfl rfl rfl (by exact ovE (fadV rfl (hp2432.rd (i := 0) rfl) Row.len rfl (hr2431.inb hk2445) Try.runUnderlying70 rfl Try.sizeOf3 rfl) rfl), nR rfl rfl rfl rfl rfl (by exact ovE (ldV 0 rfl (hp2432.rd (i := 0) rfl) Row.len (hr2431.inb hk2445) (by rw [show Row.v (rd rw2246 i2441) = _ from hw2450]; rfl) Try.isAgg3) rfl), nR rfl rfl rfl rfl rfl (by exact ovE (mv rfl) rfl), nR rfl rfl rfl rfl rfl (by exact ovE (mv rfl) rfl), nR rfl rfl rfl rfl rfl (by exact ovE (bin rfl rfl rfl) rfl), nR rfl rfl rfl rfl rfl (by exact ovE (ixV rfl rfl Try.runUnderlying68 Try.sizeOf70 (hp2432.rd (i := 0) rfl) Row.len rfl (hr2431.inb hk2452)) rfl), nR rfl rfl rfl rfl rfl (by exact ovE (fadV rfl (hp2432.rd (i := 0) rfl) Row.len rfl (hr2431.inb hk2452) Try.runUnderlying70 rfl Try.sizeOf3 rfl) rfl), nR rfl rfl rfl rfl rfl (by exact ovE (ldV 0 rfl (hp2432.rd (i := 0) rfl) Row.len (hr2431.inb hk2452) (by rw [show Row.v (rd rw2246 (w64 (i2441 + (1 : Int)))) = _ from hw2457]; rfl) Try.isAgg3) rfl), nR rfl rfl rfl rfl rfl (by exact ovE (bin rfl rfl rfl) rfl), nR rfl rfl rfl rfl rfl (by exact ovE (bld ([.int .i64 (w64 ((rd l_2242 i2441).often_ + (rd l_2242 (w64 (i2441 + (1 : Int)))).often_)), .slice A2479 x2481.length c2480]) [(0, 1), (1, 1)] Try.zeroValue70 Try.runUnderlying70 (by intro w; simp [Try.sizeOf22, Try.sizeOf3]) rfl rfl) rfl), trivial⟩) (fun D l a w ho hcl hav hpre hm hE hk hA hst => ?_) ho hcl hav2 hmust (hav2.notin rfl) hA hst
      have hS := (Ss.mk hE hst).env2 (e' := [(38, .agg ⟨[.int .i64 (w64 ((rd l_2242 i2441).often_ + (rd l_2242 (w64 (i2441 + (1 : Int)))).often_)), .slice A2479 x2481.length c2480]⟩)]) ⟨rfl, trivial⟩
      refine op_of_nth rfl ?_
      replace hS := hS.front [1, 0, 2] (by kernel_rfl)
      obtain ⟨p2484, hs2485, hs2486, hS⟩ := hS.poolF
      have hc2488 := h2483.cap (fun _ => rfl) rfl
      have hp2487 := h2483.pl.mono hs2485
      replace hp2432 := hp2432.mono hs2486
      replace hp2460 := hp2460.mono hs2486
      replace hp2465 := hp2465.mono hs2486
      replace hp2477 := hp2477.mono hs2486
      replace hr2431 := RelL.mono (fun _ _ h => R_huff_packet.mono hs2486 h) hr2431
      replace hr2440 := RelL.mono (fun _ _ h => R_huff_packet.mono hs2486 h) hr2440
      replace hr2472 := RelL.mono (fun _ _ h => R_s_int.mono hs2486 h) hr2472
      replace hs2430 := fun q h => hs2486 q (hs2430 q h)
      obtain ⟨rw2494, hrw⟩ : ∃ r, r = ([(⟨[.int .i64 (w64 ((rd l_2242 i2441).often_ + (rd l_2242 (w64 (i2441 + (1 : Int)))).often_)), .slice A2479 x2481.length c2480], by simp, by simp [Value.oneCell']⟩ : Row 2)] : List (Row 2)) := ⟨_, rfl⟩
      have hr2493 : RelL (R_huff_packet p2484) ([(T_huff_packet.mk (w64 ((rd l_2242 i2441).often_ + (rd l_2242 (w64 (i2441 + (1 : Int)))).often_)) x2481)] : List T_huff_packet) rw2494 := by rw [hrw]; exact (RelL.cons (show R_huff_packet p2484 _ _ from ⟨A2479, c2480, rfl, hp2487, hc2488⟩) RelL.nil)
      refine bsl (g := (Row.v (sz := 2))) rw2494 [.agg ⟨[.int .i64 (w64 ((rd l_2242 i2441).often_ + (rd l_2242 (w64 (i2441 + (1 : Int)))).often_)), .slice A2479 x2481.length c2480]⟩] hS Try.runUnderlying68 Try.sizeOf70 X.el70 rfl rfl rfl (by simp [Value.cells]) (by rw [hrw]; rfl) (by rw [hrw]; rfl) rfl rfl rfl fun w A2489 c2490 f2491 hV2492 hS => ?_
      clear hrw
      refine wpList_nil (then_n ?_)
      have hcl2 := hcl.cons (k := 27) (nth_get rfl) hpre
      have hmust := must_cons (k := 27) hm (chain (k := 27) hcl (nth_get rfl) hpre [(26, 27), (12, 26), (25, 26), (5, 12), (11, 12), (24, 25), (4, 5), (10, 11), (17, 24), (23, 24), (3, 4), (9, 10), (16, 17), (22, 23), (1, 3), (2, 3), (6, 9), (8, 9), (15, 16), (21, 22), (7, 8), (13, 15), (14, 15), (18, 21), (20, 21), (19, 20)] [] rfl (fun _ h => absurd h List.not_mem_nil))
      replace hst := hS.st
      have hav2 := hav.cons (vals' := [some (.slice A2434 rw2436.length c2435), some (.slice A2244 rw2246.length c2245), some (.int .i64 i2441), some (slp A2244 (Int.toNat i2441 * 2)), some (slp A2244 (Int.toNat i2441 * 2 + 0)), some (.int .i64 ((rd l_2242 i2441).often_)), some (.slice A2244 rw2246.length c2245), some (.int .i64 i2441), some (.int .i64 (w64 (i2441 + (1 : Int)))), some (slp A2244 (Int.toNat (w64 (i2441 + (1 : Int))) * 2)), some (slp A2244 (Int.toNat (w64 (i2441 + (1 : Int))) * 2 + 0)), some (.int .i64 ((rd l_2242 (w64 (i2441 + (1 : Int)))).often_)), some (.int .i64 (w64 ((rd l_2242 i2441).often_ + (rd l_2242 (w64 (i2441 + (1 : Int)))).often_))), some (.slice A2244 rw2246.length c2245), some (.int .i64 i2441), some (slp A2244 (Int.toNat i2441 * 2)), some (slp A2244 (Int.toNat i2441 * 2 + 1)), some (.slice A2458 ((rd l_2242 i2441).symbols_).length c2459), some (.slice A2244 rw2246.length c2245), some (.int .i64 i2441), some (.int .i64 (w64 (i2441 + (1 : Int)))), some (slp A2244 (Int.toNat (w64 (i2441 + (1 : Int))) * 2)), some (slp A2244 (Int.toNat (w64 (i2441 + (1 : Int))) * 2 + 1)), some (.slice A2463 ((rd l_2242 (w64 (i2441 + (1 : Int)))).symbols_).length c2464), some (.slice A2468 rw2473.length c2469), some (.slice A2479 x2481.length c2480), some (.agg ⟨[.int .i64 (w64 ((rd l_2242 i2441).often_ + (rd l_2242 (w64 (i2441 + (1 : Int)))).often_)), .slice A2479 x2481.length c2480]⟩), some (.slice A2489 rw2494.length c2490), none, none]) (k := 27) ⟨rfl, rfl, rfl, rfl, rfl, rfl, rfl, rfl, rfl, rfl, rfl, rfl, rfl, rfl, rfl, rfl, rfl, rfl, rfl, rfl, rfl, rfl, rfl, rfl, rfl, rfl, rfl, trivial⟩ rfl
      replace hA := (hA.next hav (subV.get (l' := [some (.slice A2434 rw2436.length c2435), some (.slice A2244 rw2246.length c2245), some (.int .i64 i2441), some (slp A2244 (Int.toNat i2441 * 2)), some (slp A2244 (Int.toNat i2441 * 2 + 0)), some (.int .i64 ((rd l_2242 i2441).often_)), some (.slice A2244 rw2246.length c2245), some (.int .i64 i2441), some (.int .i64 (w64 (i2441 + (1 : Int)))), some (slp A2244 (Int.toNat (w64 (i2441 + (1 : Int))) * 2)), some (slp A2244 (Int.toNat (w64 (i2441 + (1 : Int))) * 2 + 0)), some (.int .i64 ((rd l_2242 (w64 (i2441 + (1 : Int)))).often_)), some (.int .i64 (w64 ((rd l_2242 i2441).often_ + (rd l_2242 (w64 (i2441 + (1 : Int)))).often_))), some (.slice A2244 rw2246.length c2245), some (.int .i64 i2441), some (slp A2244 (Int.toNat i2441 * 2)), some (slp A2244 (Int.toNat i2441 * 2 + 1)), some (.slice A2458 ((rd l_2242 i2441).symbols_).length c2459), some (.slice A2244 rw2246.length c2245), some (.int .i64 i2441), some (.int .i64 (w64 (i2441 + (1 : Int)))), some (slp A2244 (Int.toNat (w64 (i2441 + (1 : Int))) * 2)), some (slp A2244 (Int.toNat (w64 (i2441 + (1 : Int))) * 2 + 1)), some (.slice A2463 ((rd l_2242 (w64 (i2441 + (1 : Int)))).symbols_).length c2464), some (.slice A2468 rw2473.length c2469), some (.slice A2479 x2481.length c2480), some (.agg ⟨[.int .i64 (w64 ((rd l_2242 i2441).often_ + (rd l_2242 (w64 (i2441 + (1 : Int)))).often_)), .slice A2479 x2481.length c2480]⟩), some (.slice A2489 rw2494.length c2490), none, none]) ⟨rfl, rfl, rfl, rfl, rfl, rfl, rfl, rfl, rfl, rfl, rfl, rfl, rfl, rfl, rfl, rfl, rfl, rfl, rfl, rfl, rfl, rfl, rfl, rfl, rfl, rfl, rfl, trivial⟩)).step rfl (nth_get rfl) hk rfl rfl rfl
      clear hm hav
      replace hcl := hcl2
      refine phase' (vals := [some (.slice A2434 rw2436.length c2435), some (.slice A2244 rw2246.length c2245), some (.int .i64 i2441), some (slp A2244 (Int.toNat i2441 * 2)), some (slp A2244 (Int.toNat i2441 * 2 + 0)), some (.int .i64 ((rd l_2242 i2441).often_)), some (.slice A2244 rw2246.length c2245), some (.int .i64 i2441), some (.int .i64 (w64 (i2441 + (1 : Int)))), some (slp A2244 (Int.toNat (w64 (i2441 + (1 : Int))) * 2)), some (slp A2244 (Int.toNat (w64 (i2441 + (1 : Int))) * 2 + 0)), some (.int .i64 ((rd l_2242 (w64 (i2441 + (1 : Int)))).often_)), some (.int .i64 (w64 ((rd l_2242 i2441).often_ + (rd l_2242 (w64 (i2441 + (1 : Int)))).often_))), some (.slice A2244 rw2246.length c2245), some (.int .i64 i2441), some (slp A2244 (Int.toNat i2441 * 2)), some (slp A2244 (Int.toNat i2441 * 2 + 1)), some (.slice A2458 ((rd l_2242 i2441).symbols_).length c2459), some (.slice A2244 rw2246.length c2245), some (.int .i64 i2441), some (.int .i64 (w64 (i2441 + (1 : Int)))), some (slp A2244 (Int.toNat (w64 (i2441 + (1 : Int))) * 2)), some (slp A2244 (Int.toNat (w64 (i2441 + (1 : Int))) * 2 + 1)), some (.slice A2463 ((rd l_2242 (w64 (i2441 + (1 : Int)))).symbols_).length c2464), some (.slice A2468 rw2473.length c2469), some (.slice A2479 x2481.length c2480), some (.agg ⟨[.int .i64 (w64 ((rd l_2242 i2441).often_ + (rd l_2242 (w64 (i2441 + (1 : Int)))).often_)), .slice A2479 x2481.length c2480]⟩), some (.slice A2489 rw2494.length c2490), none, none]) 28 [27, 26, 12, 25, 5, 11, 24, 4, 10, 17, 23, 3, 9, 16, 22, 1, 2, 6, 8, 15, 21, 7, 13, 14, 18, 20, 19, 25, 24, 17, 23, 16, 22, 15, 21, 13, 14, 18, 20, 19, 24, 17, 23, 16, 22, 15, 21, 13, 14, 18, 20, 19] [0] rfl rfl rfl rfl (by exact ⟨nR rfl rfl rfl rfl rfl (by exact ovE (mv rfl) rfl), trivial⟩) (fun D l a w ho hcl hav hpre hm hE hk hA hst => ?_) ho hcl hav2 hmust (hav2.notin rfl) hA hst
      have hS := (Ss.mk hE hst).env2 (e' := [(12, .slice A2434 rw2436.length c2435), (39, .slice A2489 rw2494.length c2490)]) ⟨rfl, rfl, trivial⟩
      refine op_of_nth rfl ?_
      obtain ⟨hk2495, hM⟩ := wp_chk hM
      refine apV (ys := rw2494) 2 hS rfl rfl hV2439 rfl (hV2492.rd (i := 0) rfl) Try.runUnderlying68 Try.runUnderlying68 X.el70 Row.len rfl one_row (hr2440.room hr2493 hk2495) rfl fun rw2500 w A2496 c2497 f2498 hz hV2499 hS => ?_
      obtain ⟨zs2501, hzm⟩ : ∃ z, z = out2437 ++ ([(T_huff_packet.mk (w64 ((rd l_2242 i2441).often_ + (rd l_2242 (w64 (i2441 + (1 : Int)))).often_)) x2481)] : List T_huff_packet) := ⟨_, rfl⟩
      replace hM := lt_to hzm hM
      have hr2502 := RelL.append hr2440 hr2493
      rw [← hz, ← hzm] at hr2502; clear hz hzm
      refine wpList_nil (then_n ?_)
      have hcl2 := hcl.cons (k := 28) (nth_get rfl) hpre
      have hmust := must_cons (k := 28) hm (chain (k := 28) hcl (nth_get rfl) hpre [(0, 28), (25, 28), (27, 28), (24, 25), (26, 27), (17, 24), (23, 24), (12, 26), (16, 17), (22, 23), (5, 12), (11, 12), (15, 16), (21, 22), (4, 5), (10, 11), (13, 15), (14, 15), (18, 21), (20, 21), (3, 4), (9, 10), (19, 20), (1, 3), (2, 3), (6, 9), (8, 9), (7, 8)] [] rfl (fun _ h => absurd h List.not_mem_nil))
      replace hst := hS.st
      have hav2 := hav.cons (vals' := [some (.slice A2434 rw2436.length c2435), some (.slice A2244 rw2246.length c2245), some (.int .i64 i2441), some (slp A2244 (Int.toNat i2441 * 2)), some (slp A2244 (Int.toNat i2441 * 2 + 0)), some (.int .i64 ((rd l_2242 i2441).often_)), some (.slice A2244 rw2246.length c2245), some (.int .i64 i2441), some (.int .i64 (w64 (i2441 + (1 : Int)))), some (slp A2244 (Int.toNat (w64 (i2441 + (1 : Int))) * 2)), some (slp A2244 (Int.toNat (w64 (i2441 + (1 : Int))) * 2 + 0)), some (.int .i64 ((rd l_2242 (w64 (i2441 + (1 : Int)))).often_)), some (.int .i64 (w64 ((rd l_2242 i2441).often_ + (rd l_2242 (w64 (i2441 + (1 : Int)))).often_))), some (.slice A2244 rw2246.length c2245), some (.int .i64 i2441), some (slp A2244 (Int.toNat i2441 * 2)), some (slp A2244 (Int.toNat i2441 * 2 + 1)), some (.slice A2458 ((rd l_2242 i2441).symbols_).length c2459), some (.slice A2244 rw2246.length c2245), some (.int .i64 i2441), some (.int .i64 (w64 (i2441 + (1 : Int)))), some (slp A2244 (Int.toNat (w64 (i2441 + (1 : Int))) * 2)), some (slp A2244 (Int.toNat (w64 (i2441 + (1 : Int))) * 2 + 1)), some (.slice A2463 ((rd l_2242 (w64 (i2441 + (1 : Int)))).symbols_).length c2464), some (.slice A2468 rw2473.length c2469), some (.slice A2479 x2481.length c2480), some (.agg ⟨[.int .i64 (w64 ((rd l_2242 i2441).often_ + (rd l_2242 (w64 (i2441 + (1 : Int)))).often_)), .slice A2479 x2481.length c2480]⟩), some (.slice A2489 rw2494.length c2490), some (.slice A2496 rw2500.length c2497), some (.slice A2496 rw2500.length c2497)]) (k := 28) ⟨rfl, rfl, rfl, rfl, rfl, rfl, rfl, rfl, rfl, rfl, rfl, rfl, rfl, rfl, rfl, rfl, rfl, rfl, rfl, rfl, rfl, rfl, rfl, rfl, rfl, rfl, rfl, rfl, trivial⟩ rfl
      replace hA := (hA.next hav (subV.get (l' := [some (.slice A2434 rw2436.length c2435), some (.slice A2244 rw2246.length c2245), some (.int .i64 i2441), some (slp A2244 (Int.toNat i2441 * 2)), some (slp A2244 (Int.toNat i2441 * 2 + 0)), some (.int .i64 ((rd l_2242 i2441).often_)), some (.slice A2244 rw2246.length c2245), some (.int .i64 i2441), some (.int .i64 (w64 (i2441 + (1 : Int)))), some (slp A2244 (Int.toNat (w64 (i2441 + (1 : Int))) * 2)), some (slp A2244 (Int.toNat (w64 (i2441 + (1 : Int))) * 2 + 0)), some (.int .i64 ((rd l_2242 (w64 (i2441 + (1 : Int)))).often_)), some (.int .i64 (w64 ((rd l_2242 i2441).often_ + (rd l_2242 (w64 (i2441 + (1 : Int)))).often_))), some (.slice A2244 rw2246.length c2245), some (.int .i64 i2441), some (slp A2244 (Int.toNat i2441 * 2)), some (slp A2244 (Int.toNat i2441 * 2 + 1)), some (.slice A2458 ((rd l_2242 i2441).symbols_).length c2459), some (.slice A2244 rw2246.length c2245), some (.int .i64 i2441), some (.int .i64 (w64 (i2441 + (1 : Int)))), some (slp A2244 (Int.toNat (w64 (i2441 + (1 : Int))) * 2)), some (slp A2244 (Int.toNat (w64 (i2441 + (1 : Int))) * 2 + 1)), some (.slice A2463 ((rd l_2242 (w64 (i2441 + (1 : Int)))).symbols_).length c2464), some (.slice A2468 rw2473.length c2469), some (.slice A2479 x2481.length c2480), some (.agg ⟨[.int .i64 (w64 ((rd l_2242 i2441).often_ + (rd l_2242 (w64 (i2441 + (1 : Int)))).often_)), .slice A2479 x2481.length c2480]⟩), some (.slice A2489 rw2494.length c2490), some (.slice A2496 rw2500.length c2497), some (.slice A2496 rw2500.length c2497)]) ⟨rfl, rfl, rfl, rfl, rfl, rfl, rfl, rfl, rfl, rfl, rfl, rfl, rfl, rfl, rfl, rfl, rfl, rfl, rfl, rfl, rfl, rfl, rfl, rfl, rfl, rfl, rfl, rfl, trivial⟩)).step rfl (nth_get rfl) hk rfl rfl rfl
      clear hm hav
      replace hcl := hcl2
      refine phaseE (vals := [some (.slice A2434 rw2436.length c2435), some (.slice A2244 rw2246.length c2245), some (.int .i64 i2441), some (slp A2244 (Int.toNat i2441 * 2)), some (slp A2244 (Int.toNat i2441 * 2 + 0)), some (.int .i64 ((rd l_2242 i2441).often_)), some (.slice A2244 rw2246.length c2245), some (.int .i64 i2441), some (.int .i64 (w64 (i2441 + (1 : Int)))), some (slp A2244 (Int.toNat (w64 (i2441 + (1 : Int))) * 2)), some (slp A2244 (Int.toNat (w64 (i2441 + (1 : Int))) * 2 + 0)), some (.int .i64 ((rd l_2242 (w64 (i2441 + (1 : Int)))).often_)), some (.int .i64 (w64 ((rd l_2242 i2441).often_ + (rd l_2242 (w64 (i2441 + (1 : Int)))).often_))), some (.slice A2244 rw2246.length c2245), some (.int .i64 i2441), some (slp A2244 (Int.toNat i2441 * 2)), some (slp A2244 (Int.toNat i2441 * 2 + 1)), some (.slice A2458 ((rd l_2242 i2441).symbols_).length c2459), some (.slice A2244 rw2246.length c2245), some (.int .i64 i2441), some (.int .i64 (w64 (i2441 + (1 : Int)))), some (slp A2244 (Int.toNat (w64 (i2441 + (1 : Int))) * 2)), some (slp A2244 (Int.toNat (w64 (i2441 + (1 : Int))) * 2 + 1)), some (.slice A2463 ((rd l_2242 (w64 (i2441 + (1 : Int)))).symbols_).length c2464), some (.slice A2468 rw2473.length c2469), some (.slice A2479 x2481.length c2480), some (.agg ⟨[.int .i64 (w64 ((rd l_2242 i2441).often_ + (rd l_2242 (w64 (i2441 + (1 : Int)))).often_)), .slice A2479 x2481.length c2480]⟩), some (.slice A2489 rw2494.length c2490), some (.slice A2496 rw2500.length c2497), some (.slice A2496 rw2500.length c2497)]) [28, 0, 25, 27, 24, 26, 17, 23, 12, 16, 22, 5, 11, 15, 21, 4, 10, 13, 14, 18, 20, 3, 9, 19, 1, 2, 6, 8, 7, 27, 26, 12, 25, 5, 11, 24, 4, 10, 17, 23, 3, 9, 16, 22, 1, 2, 6, 8, 15, 21, 7, 13, 14, 18, 20, 19, 25, 24, 17, 23, 16, 22, 15, 21, 13, 14, 18, 20, 19, 24, 17, 23, 16, 22, 15, 21, 13, 14, 18, 20, 19] [29] rfl rfl rfl (by exact ⟨nR rfl rfl rfl rfl rfl (by exact ovE (asg rfl) rfl), trivial⟩) (fun a w hS => ?_) ho hcl hmust hA hst
      replace hS := hS.env2 (e' := [(0, .slice A2244 rw2246.length c2245), (3, .slice A2496 rw2500.length c2497), (4, .int .i64 i2441)]) ⟨rfl, rfl, rfl, trivial⟩
      refine blk_n (then_n ?_)
      refine wp_region_list ?_
      refine st1 hS (mv rfl) rfl fun a w hS => ?_
      refine st1 hS (bin rfl rfl rfl) rfl fun a w hS => ?_
      refine st1x (v := Value.int .i64) hS (asg rfl) rfl fun i2503 a w hz hS => ?_
      have hM := lt_to hz hM; clear hz
      refine wpList_nil ?_
      refine then_n ?_
      exact hJ2504 _ _ ⟨p2484, A2496, c2497, rw2500, zs2501, f2498, i2503, hS.to [1, 2] (by kernel_rfl) ⟨rfl, rfl, rfl, trivial⟩, hs2430, hr2431, hp2432, hc2433, hV2499, hr2502, hM⟩
    · refine wp_exit ?_
      refine then_ex (then_ex (blk_same (then_n ?_)))
      refine wp_seq ?_
      refine wp_region_list ?_
      refine st1 hS (mv rfl) rfl fun a w hS => ?_
      refine st1 hS (asg rfl) rfl fun a w hS => ?_
      refine wpList_nil ?_
      refine then_n ?_
      refine wp_ret ?_
      exact s_ret (rs := [2]) hS rfl rfl (hret p2429 A2434 c2435 rw2436 out2437 f2438 w hM hs2430 hV2439 hr2440 (hS.st.pick [0, 1] (by kernel_rfl)))

def R_s_huff_packet (p : Frag) (x : (List T_huff_packet)) (vs : List Value) : Prop :=
  ∃ (A0 : Option Addr) (c0 : Nat) (r0 : List (Row 2)), vs = [.slice A0 r0.length c0] ∧ RelL (R_huff_packet p) x r0 ∧ Pl p (Row.v (sz := 2)) A0 r0 ∧ r0.length ≤ c0
theorem R_s_huff_packet.mono {p p' : Frag} (hs : ∀ q ∈ p, q ∈ p') {x : (List T_huff_packet)} {vs : List Value} (h : R_s_huff_packet p x vs) : R_s_huff_packet p' x vs := by
  obtain ⟨A0, c0, r0, h0, h1, h2, h3⟩ := h
  exact ⟨A0, c0, r0, h0, RelL.mono (fun _ _ h => R_huff_packet.mono hs h) h1, h2.mono hs, h3⟩

theorem slices_Grow___huff_packet_huff_packet__8ef0_c {H : Imm} {F : List Frag} {w : World} {R : Ending → World → Prop} {kr : Unit → Prop} {kp : Value → Prop} (hG : Gl H) (K : Nat) (n_2587 : Int)
    (hS : St w H [] F) (hm : (slices_Grow___huff_packet_huff_packet__8ef0.m K n_2587).wp kr kp)
    (hret : ∀ (p2606 : Frag) (A2607 : Option Addr) (c2608 : Nat) (f2609 : Frag) (w : World), kr () → (Vec 70 (Row.v (sz := 2)) 2 A2607 ([] : List (Row 2)) c2608 f2609) → (RelL (R_huff_packet p2606) ([] : List T_huff_packet) ([] : List (Row 2))) → St w H [p2606, f2609] F → R (.returned (.slice A2607 ([] : List (Row 2)).length c2608)) w)
    (hpan : ∀ v w, kp v → St w H [] F → R (.panicked [⟨v, false, false⟩]) w) :
    Calls Try.prog 45 ⟨[.slice none 0 0, .int .i64 n_2587]⟩ w R := by
  refine enter Try.func45 rfl Try.ntmps45 rfl hS fun a w hS => ?_
  have hM := hm; clear hm
  rw [slices_Grow___huff_packet_huff_packet__8ef0.m] at hM
  refine wp_seq ?_
  refine wp_region_list ?_
  refine st1 hS (asg rfl) rfl fun a w hS => ?_
  obtain ⟨p2590, hS⟩ := hS.pool0
  obtain ⟨f2588, hV2589, hS⟩ := hS.nilV 70 (Row.v (sz := 2)) 2
  have hr2591 : RelL (R_huff_packet p2590) ([] : List T_huff_packet) ([] : List (Row 2)) := RelL.nil
  refine wpList_nil ?_
  refine then_n ?_
  refine wp_seq ?_
  refine wp_seq ?_
  refine wp_region_list ?_
  refine st1 hS (mv rfl) rfl fun a w hS => ?_
  refine st1 hS (bin rfl rfl rfl) rfl fun a w hS => ?_
  refine wpList_nil ?_
  refine then_n ?_
  refine s_cond hS rfl hM (fun hb2592 hM => ?_) (fun hb2592 hM => ?_)
  · refine wp_region_list ?_
    refine st1 hS (mkI rfl Try.runUnderlying9 rfl) rfl fun a w hS => ?_
    refine s_panic hS rfl ?_
    refine then_pan ?_
    exact ⟨hS.ev.defs, hpan _ _ hM hS.st.frame⟩
  · refine wp_skip ?_
    refine then_n ?_
    refine wp_seq ?_
    refine wp_seq ?_
    refine wp_region_list ?_
    refine st1 hS (mv rfl) rfl fun a w hS => ?_
    refine st1 hS (mv rfl) rfl fun a w hS => ?_
    refine st1 hS (capN rfl Try.runUnderlying68) rfl fun a w hS => ?_
    refine st1 hS (mv rfl) rfl fun a w hS => ?_
    refine st1 hS (lenV rfl Try.runUnderlying68) rfl fun a w hS => ?_
    refine st1 hS (bin rfl rfl rfl) rfl fun a w hS => ?_
    refine st1 hS (bin rfl rfl rfl) rfl fun a w hS => ?_
    refine st1x (v := Value.int .i64) hS (asg rfl) rfl fun n_2593 a w hz hS => ?_
    have hM := lt_to hz hM; clear hz
    refine wpList_nil ?_
    refine then_n ?_
    refine wp_seq ?_
    refine wp_region_list ?_
    refine st1 hS (mv rfl) rfl fun a w hS => ?_
    refine st1 hS (bin rfl rfl rfl) rfl fun a w hS => ?_
    refine wpList_nil ?_
    refine then_n ?_
    refine s_cond hS rfl hM (fun hb2594 hM => ?_) (fun hb2594 hM => ?_)
    · refine wp_region_list ?_
      refine st1 hS (mv rfl) rfl fun a w hS => ?_
      refine st1 hS (mv rfl) rfl fun a w hS => ?_
      refine st1 hS (capN rfl Try.runUnderlying68) rfl fun a w hS => ?_
      refine st1 hS (slN rfl Try.runUnderlying68 Try.sizeOf70 (hiS rfl)) rfl fun a w hS => ?_
      refine st1 hS (mv rfl) rfl fun a w hS => ?_
      obtain ⟨hk2595, hM⟩ := wp_chk hM
      refine apG (g := (Row.v (sz := 2))) hS rfl rfl Try.runUnderlying68 Try.runUnderlying3 X.el70 rfl rfl hk2595 rfl fun w A2596 c2597 f2598 hV2599 hc2600 hA2601 hS => ?_
      have hr2602 : RelL (R_huff_packet p2590) ([] : List T_huff_packet) ([] : List (Row 2)) := RelL.nil
      refine st1 hS (mv rfl) rfl fun a w hS => ?_
      refine st1 hS (lenV rfl Try.runUnderlying68) rfl fun a w hS => ?_
      refine st1 hS (slG rfl Try.runUnderlying68 Try.sizeOf70 (fun _ => hiS rfl) hc2600 hA2601) rfl fun a w hS => ?_
      refine st1 hS (asg rfl) rfl fun a w hS => ?_
      refine wpList_nil ?_
      refine then_n ?_
      refine wp_seq ?_
      refine wp_region_list ?_
      refine st1 hS (mv rfl) rfl fun a w hS => ?_
      refine st1 hS (asg rfl) rfl fun a w hS => ?_
      refine wpList_nil ?_
      refine then_n ?_
      refine wp_ret ?_
      exact s_ret (rs := [4]) hS rfl rfl (hret p2590 A2596 c2597 f2598 w hM hV2599 hr2602 (hS.st.pick [2, 0] (by kernel_rfl)))
    · refine wp_skip ?_
      refine then_n ?_
      refine wp_seq ?_
      refine wp_region_list ?_
      refine st1 hS (mv rfl) rfl fun a w hS => ?_
      refine st1 hS (asg rfl) rfl fun a w hS => ?_
      obtain ⟨f2603, hV2604, hS⟩ := hS.nilV 70 (Row.v (sz := 2)) 2
      have hr2605 : RelL (R_huff_packet p2590) ([] : List T_huff_packet) ([] : List (Row 2)) := RelL.nil
      refine wpList_nil ?_
      refine then_n ?_
      refine wp_ret ?_
      exact s_ret (rs := [4]) hS rfl rfl (hret p2590 none (0) f2603 w hM hV2604 hr2605 (hS.st.pick [2, 0] (by kernel_rfl)))

theorem slices_Concat___huff_packet_huff_packet__c {H : Imm} {F : List Frag} {w : World} {R : Ending → World → Prop} {kr : (List T_huff_packet) → Prop} {kp : Value → Prop} (hG : Gl H) (K : Nat) (slices2558 : List (List T_huff_packet)) (p2559 : Frag) (A2560 : Option Addr) (c2561 : Nat) (rw2562 : List (Row 1)) (hr2563 : RelL (R_s_huff_packet p2559) slices2558 rw2562) (hp2564 : Pl p2559 (Row.v (sz := 1)) A2560 rw2562) (hc2565 : rw2562.length ≤ c2561)
    (hS : St w H [p2559] F) (hm : (slices_Concat___huff_packet_huff_packet_.m K slices2558).wp kr kp)
    (hret : ∀ (p2675 : Frag) (A2677 : Option Addr) (c2678 : Nat) (rw2679 : List (Row 2)) (x2680 : (List T_huff_packet)) (f2681 : Frag) (w : World), kr x2680 → (∀ q ∈ p2559, q ∈ p2675) → (Vec 70 (Row.v (sz := 2)) 2 A2677 rw2679 c2678 f2681) → (RelL (R_huff_packet p2675) x2680 rw2679) → St w H [p2675, f2681] F → R (.returned (.slice A2677 rw2679.length c2678)) w)
    (hpan : ∀ v w, kp v → St w H [] F → R (.panicked [⟨v, false, false⟩]) w) :
    Calls Try.prog 40 ⟨[.slice A2560 rw2562.length c2561]⟩ w R := by
  refine enter Try.func40 rfl Try.ntmps40 rfl hS fun a w hS => ?_
  have hM := hm; clear hm
  rw [slices_Concat___huff_packet_huff_packet_.m] at hM
  have hs2566 : ∀ q ∈ p2559, q ∈ p2559 := fun _ h => h
  refine wp_seq ?_
  refine wp_region_list ?_
  refine st1 hS (asg rfl) rfl fun a w hS => ?_
  obtain ⟨f2567, hV2568, hS⟩ := hS.nilV 70 (Row.v (sz := 2)) 2
  have hr2569 : RelL (R_huff_packet p2559) ([] : List T_huff_packet) ([] : List (Row 2)) := RelL.nil
  refine wpList_nil ?_
  refine then_n ?_
  refine wp_seq ?_
  refine wp_region_list ?_
  refine st1 hS (asg rfl) rfl fun a w hS => ?_
  refine wpList_nil ?_
  refine then_n ?_
  refine seq_joinJ (fun a w => ∃ (size2585 : Int), Ss 36 [] [(0, .slice A2560 rw2562.length c2561), (3, .int .i64 size2585)] H [p2559] F a w ∧ (slices_Concat___huff_packet_huff_packet_.j2 K slices2558 size2585).wp kr kp) (fun J2586 hJ2586 => ?_) ?_
  · refine wp_seq ?_
    refine wp_region_list ?_
    refine st1 hS (mv rfl) rfl fun a w hS => ?_
    refine st1 hS (ovE (v' := .int .i64 (slices2558.length : Int)) (lenV rfl Try.runUnderlying84) (by rw [hr2563.len])) rfl fun a w hS => ?_
    refine st1 hS (mv rfl) rfl fun a w hS => ?_
    refine wpList_nil ?_
    refine then_n ?_
    refine wp_block ?_
    refine s_loopJ (fun k2572 a w => ∃ (size2570 : Int) (v2571 : Int), Ss 36 [] [(0, .slice A2560 rw2562.length c2561), (3, .int .i64 size2570), (9, .slice A2560 rw2562.length c2561), (10, .int .i64 (slices2558.length : Int)), (11, .int .i64 v2571)] H [p2559] F a w ∧ (slices_Concat___huff_packet_huff_packet_.l1 K slices2558 k2572 size2570 v2571).wp kr kp) K ?_ ?_ ?_
    · exact ⟨(0 : Int), (0 : Int), hS.to [1] (by kernel_rfl) ⟨rfl, rfl, rfl, rfl, rfl, trivial⟩, hM⟩
    · intro a w hI; obtain ⟨_, _, _, hM⟩ := hI; exact hM
    · intro k2572 a w hI J2584 hJ2584
      obtain ⟨size2570, v2571, hS, hM⟩ := hI
      rw [slices_Concat___huff_packet_huff_packet_.l1] at hM
      refine wp_seq ?_
      refine wp_region_list ?_
      refine st1 hS (bin rfl rfl rfl) rfl fun a w hS => ?_
      refine wpList_nil ?_
      refine then_n ?_
      refine wp_seq ?_
      refine s_cond hS rfl hM (fun hb2573 hM => ?_) (fun hb2573 hM => ?_)
      · refine wp_skip ?_
        refine then_n ?_
        refine wp_seq ?_
        refine wp_block ?_
        refine wp_seq ?_
        refine wp_region_list ?_
        obtain ⟨hk2574, hM⟩ := wp_chk hM
        refine st1 hS (ixV rfl rfl Try.runUnderlying84 Try.sizeOf68 (hp2564.rd (i := 0) rfl) Row.len rfl (hr2563.inb hk2574)) rfl fun a w hS => ?_
        obtain ⟨A2575, c2576, rw2579, hw2581, hr2580, hp2577, hc2578⟩ := hr2563.get hk2574
        refine st1 hS (ldV0 rfl (hp2564.rd (i := 0) rfl) Row.len (hr2563.inb hk2574) (by rw [show Row.v (rd rw2562 v2571) = _ from hw2581]; rfl) Try.isAgg68) rfl fun a w hS => ?_
        refine st1 hS (asg rfl) rfl fun a w hS => ?_
        refine wpList_nil ?_
        refine then_n ?_
        refine wp_seq ?_
        refine wp_region_list ?_
        refine st1 hS (mv rfl) rfl fun a w hS => ?_
        refine st1 hS (mv rfl) rfl fun a w hS => ?_
        refine st1 hS (ovE (v' := .int .i64 ((rd slices2558 v2571).length : Int)) (lenV rfl Try.runUnderlying68) (by rw [hr2580.len])) rfl fun a w hS => ?_
        refine st1 hS (bin rfl rfl rfl) rfl fun a w hS => ?_
        refine st1x (v := Value.int .i64) hS (asg rfl) rfl fun size2582 a w hz hS => ?_
        have hM := lt_to hz hM; clear hz
        refine wpList_nil ?_
        refine then_n ?_
        refine wp_seq ?_
        refine wp_region_list ?_
        refine st1 hS (mv rfl) rfl fun a w hS => ?_
        refine st1 hS (bin rfl rfl rfl) rfl fun a w hS => ?_
        refine wpList_nil ?_
        refine then_n ?_
        refine s_cond hS rfl hM (fun hb2583 hM => ?_) (fun hb2583 hM => ?_)
        · refine wp_region_list ?_
          refine st1 hS (mkI rfl Try.runUnderlying9 rfl) rfl fun a w hS => ?_
          refine s_panic hS rfl ?_
          refine blk_pan (then_pan (then_pan (blk_pan (then_pan ?_))))
          exact ⟨hS.ev.defs, hpan _ _ hM hS.st.frame⟩
        · refine wp_skip ?_
          refine blk_n (then_n ?_)
          refine wp_region_list ?_
          refine st1 hS (bin rfl rfl rfl) rfl fun a w hS => ?_
          refine st1 hS (mv rfl) rfl fun a w hS => ?_
          refine wpList_nil ?_
          refine then_n ?_
          exact hJ2584 _ _ ⟨size2582, (w64 (v2571 + (1 : Int))), hS.to [0] (by kernel_rfl) ⟨rfl, rfl, rfl, rfl, rfl, trivial⟩, hM⟩
      · refine wp_exit ?_
        refine then_ex (then_ex (blk_same (then_n ?_)))
        exact hJ2586 _ _ ⟨size2570, hS.to [0] (by kernel_rfl) ⟨rfl, rfl, trivial⟩, hM⟩
  · intro a w hI
    obtain ⟨size2585, hS, hM⟩ := hI
    rw [slices_Concat___huff_packet_huff_packet_.j2] at hM
    refine wp_seq ?_
    refine wp_region_list ?_
    refine st1 hS (mv rfl) rfl fun a w hS => ?_
    refine s_call hS rfl Try.call45 (slices_Grow___huff_packet_huff_packet__8ef0_c hG K size2585 (hS.st.part 0 [0] (by kernel_rfl)) (wp_bind hM) (fun p2612 A2613 c2614 f2615 w hM h2616 h2617 hst => s_back hS.ev hst.appF rfl fun hS => ?_) (fun v w hk hst => s_pan (then_pan (⟨hS.ev.defs, hpan _ _ hk hst.appF.frame⟩))))
    replace hS : Ss _ _ _ H [p2612, f2615, p2559] F _ _ := hS
    replace hS := hS.front [0, 2, 1] (by kernel_rfl)
    obtain ⟨p2618, hs2619, hs2620, hS⟩ := hS.poolF
    replace h2617 := RelL.mono (fun _ _ h => R_huff_packet.mono hs2619 h) h2617
    replace hp2564 := hp2564.mono hs2620
    replace hr2563 := RelL.mono (fun _ _ h => R_s_huff_packet.mono hs2620 h) hr2563
    replace hs2566 := fun q h => hs2620 q (hs2566 q h)
    refine st1 hS (asg rfl) rfl fun a w hS => ?_
    refine wpList_nil ?_
    refine then_n ?_
    refine wp_seq ?_
    refine wp_seq ?_
    refine wp_region_list ?_
    refine st1 hS (mv rfl) rfl fun a w hS => ?_
    refine st1 hS (ovE (v' := .int .i64 (slices2558.length : Int)) (lenV rfl Try.runUnderlying84) (by rw [hr2563.len])) rfl fun a w hS => ?_
    refine st1 hS (mv rfl) rfl fun a w hS => ?_
    refine wpList_nil ?_
    refine then_n ?_
    refine wp_block ?_
    refine s_loopJ (fun k2656 a w => ∃ (A2648 : Option Addr) (c2649 : Nat) (rw2650 : List (Row 2)) (newslice2651 : (List T_huff_packet)) (f2652 : Frag) (v2655 : Int), Ss 36 [] [(6, .slice A2648 rw2650.length c2649), (25, .slice A2560 rw2562.length c2561), (26, .int .i64 (slices2558.length : Int)), (27, .int .i64 v2655)] H [p2618, f2652] F a w ∧ (Vec 70 (Row.v (sz := 2)) 2 A2648 rw2650 c2649 f2652) ∧ (RelL (R_huff_packet p2618) newslice2651 rw2650) ∧ (slices_Concat___huff_packet_huff_packet_.l3 K slices2558 k2656 newslice2651 v2655).wp kr kp) K ?_ ?_ ?_
    · exact ⟨A2613, c2614, ([] : List (Row 2)), ([] : List T_huff_packet), f2615, (0 : Int), hS.to [0, 1] (by kernel_rfl) ⟨rfl, rfl, rfl, rfl, trivial⟩, h2616, h2617, hM⟩
    · intro a w hI; obtain ⟨_, _, _, _, _, _, _, _, _, hM⟩ := hI; exact hM
    · intro k2656 a w hI J2674 hJ2674
      obtain ⟨A2648, c2649, rw2650, newslice2651, f2652, v2655, hS, hV2653, hr2654, hM⟩ := hI
      rw [slices_Concat___huff_packet_huff_packet_.l3] at hM
      refine wp_seq ?_
      refine wp_region_list ?_
      refine st1 hS (bin rfl rfl rfl) rfl fun a w hS => ?_
      refine wpList_nil ?_
      refine then_n ?_
      refine wp_seq ?_
      refine s_cond hS rfl hM (fun hb2657 hM => ?_) (fun hb2657 hM => ?_)
      · refine wp_skip ?_
        refine then_n ?_
        refine wp_seq ?_
        refine wp_block ?_
        refine wp_seq ?_
        refine wp_region_list ?_
        obtain ⟨hk2658, hM⟩ := wp_chk hM
        refine st1 hS (ixV rfl rfl Try.runUnderlying84 Try.sizeOf68 (hp2564.rd (i := 0) rfl) Row.len rfl (hr2563.inb hk2658)) rfl fun a w hS => ?_
        obtain ⟨A2659, c2660, rw2663, hw2665, hr2664, hp2661, hc2662⟩ := hr2563.get hk2658
        refine st1 hS (ldV0 rfl (hp2564.rd (i := 0) rfl) Row.len (hr2563.inb hk2658) (by rw [show Row.v (rd rw2562 v2655) = _ from hw2665]; rfl) Try.isAgg68) rfl fun a w hS => ?_
        refine st1 hS (asg rfl) rfl fun a w hS => ?_
        refine wpList_nil ?_
        refine then_n ?_
        refine wp_region_list ?_
        refine st1 hS (mv rfl) rfl fun a w hS => ?_
        refine st1 hS (mv rfl) rfl fun a w hS => ?_
        obtain ⟨hk2666, hM⟩ := wp_chk hM
        refine apV (ys := rw2663) 1 hS rfl rfl hV2653 rfl (hp2661.rd (i := 0) rfl) Try.runUnderlying68 Try.runUnderlying68 X.el70 Row.len rfl one_row (hr2654.room hr2664 hk2666) rfl fun rw2671 w A2667 c2668 f2669 hz hV2670 hS => ?_
        obtain ⟨zs2672, hzm⟩ : ∃ z, z = newslice2651 ++ (rd slices2558 v2655) := ⟨_, rfl⟩
        replace hM := lt_to hzm hM
        have hr2673 := RelL.append hr2654 hr2664
        rw [← hz, ← hzm] at hr2673; clear hz hzm
        refine st1 hS (asg rfl) rfl fun a w hS => ?_
        refine wpList_nil ?_
        refine blk_n (then_n ?_)
        refine wp_region_list ?_
        refine st1 hS (bin rfl rfl rfl) rfl fun a w hS => ?_
        refine st1 hS (mv rfl) rfl fun a w hS => ?_
        refine wpList_nil ?_
        refine then_n ?_
        exact hJ2674 _ _ ⟨A2667, c2668, rw2671, zs2672, f2669, (w64 (v2655 + (1 : Int))), hS.to [0, 1] (by kernel_rfl) ⟨rfl, rfl, rfl, rfl, trivial⟩, hV2670, hr2673, hM⟩
      · refine wp_exit ?_
        refine then_ex (then_ex (blk_same (then_n ?_)))
        refine wp_seq ?_
        refine wp_region_list ?_
        refine st1 hS (mv rfl) rfl fun a w hS => ?_
        refine st1 hS (asg rfl) rfl fun a w hS => ?_
        refine wpList_nil ?_
        refine then_n ?_
        refine wp_ret ?_
        exact s_ret (rs := [2]) hS rfl rfl (hret p2618 A2648 c2649 rw2650 newslice2651 f2652 w hM hs2566 hV2653 hr2654 (hS.st.pick [0, 1] (by kernel_rfl)))

theorem huff_merged_1_c {H : Imm} {F : List Frag} {w : World} {R : Ending → World → Prop} {kr : Int → Prop} {kp : Value → Prop} (hG : Gl H) (K : Nat) (x2751 : T_huff_packet) (y2756 : T_huff_packet) (A2752 : Option Addr) (c2753 : Nat) (A2757 : Option Addr) (c2758 : Nat) (hr2754 : Rdl H [] F (ci .i64) A2752 x2751.symbols_) (hc2755 : x2751.symbols_.length ≤ c2753) (hr2759 : Rdl H [] F (ci .i64) A2757 y2756.symbols_) (hc2760 : y2756.symbols_.length ≤ c2758)
    (hS : St w H [] F) (hm : (huff_merged_1.m K x2751 y2756).wp kr kp)
    (hret : ∀ (x2768 : Int) (w : World), kr x2768 → St w H [] F → R (.returned (.int .i64 x2768)) w) :
    Calls Try.prog 41 ⟨[.agg ⟨[.int .i64 x2751.often_, .slice A2752 x2751.symbols_.length c2753]⟩, .agg ⟨[.int .i64 y2756.often_, .slice A2757 y2756.symbols_.length c2758]⟩]⟩ w R := by
  refine enter Try.func41 rfl Try.ntmps41 rfl hS fun a w hS => ?_
  have hM := hm; clear hm
  rw [huff_merged_1.m] at hM
  refine wp_seq ?_
  refine wp_region_list ?_
  refine bx ([.int .i64 x2751.often_, .slice A2752 x2751.symbols_.length c2753]) hS rfl rfl rfl fun w b2761 f2762 hB2763 hS => ?_
  refine bx ([.int .i64 y2756.often_, .slice A2757 y2756.symbols_.length c2758]) hS rfl rfl rfl fun w b2764 f2765 hB2766 hS => ?_
  refine st1 hS (asg rfl) rfl fun a w hS => ?_
  refine wpList_nil ?_
  refine then_n ?_
  refine wp_seq ?_
  refine wp_region_list ?_
  refine st1 hS (fad rfl Try.runUnderlying70 rfl Try.sizeOf3 rfl) rfl fun a w hS => ?_
  refine st1 hS (ldb 1 rfl hB2763 rfl rfl Try.isAgg3) rfl fun a w hS => ?_
  refine st1 hS (fad rfl Try.runUnderlying70 rfl Try.sizeOf3 rfl) rfl fun a w hS => ?_
  refine st1 hS (ldb 0 rfl hB2766 rfl rfl Try.isAgg3) rfl fun a w hS => ?_
  refine s_call hS rfl Try.call34 (cmp_Compare_int__c hG K x2751.often_ y2756.often_ (hS.st.part 0 [0, 1] (by kernel_rfl)) (wp_bind hM) (fun x2767 w hM  hst => s_back hS.ev hst.appF rfl fun hS => ?_))
  replace hS : Ss _ _ _ H [f2765, f2762] F _ _ := hS
  refine st1 hS (asg rfl) rfl fun a w hS => ?_
  refine wpList_nil ?_
  refine then_n ?_
  refine wp_ret ?_
  exact s_ret (rs := [4]) hS rfl rfl (hret x2767 w hM (hS.st.pick [] (by kernel_rfl)))

theorem slices_insertionSortCmpFunc_huff_packet__b6e1_dee5_c {H : Imm} {F : List Frag} {w : World} {R : Ending → World → Prop} {kr : (List T_huff_packet) → Prop} {kp : Value → Prop} (hG : Gl H) (K : Nat) (data2718 : List T_huff_packet) (a_2726 : Int) (b_2727 : Int) (p2719 : Frag) (A2720 : Option Addr) (c2721 : Nat) (rw2722 : List (Row 2)) (f2724 : Frag) (hr2723 : RelL (R_huff_packet p2719) data2718 rw2722) (hV2725 : Vec 70 (Row.v (sz := 2)) 2 A2720 rw2722 c2721 f2724)
    (hS : St w H [p2719, f2724] F) (hm : (slices_insertionSortCmpFunc_huff_packet__b6e1_dee5.m K data2718 a_2726 b_2727).wp kr kp)
    (hret : ∀ (rw3041 : List (Row 2)) (data3042 : (List T_huff_packet)) (f3043 : Frag) (w : World), kr data3042 → (Vec 70 (Row.v (sz := 2)) 2 A2720 rw3041 c2721 f3043) → (RelL (R_huff_packet p2719) data3042 rw3041) → (rw3041.length = rw2722.length) → St w H [p2719, f3043] F → R (.returned (.tuple ⟨[]⟩)) w) :
    Calls Try.prog 43 ⟨[.slice A2720 rw2722.length c2721, .int .i64 a_2726, .int .i64 b_2727, fnv 41 [] []]⟩ w R := by
  refine enter Try.func43 rfl Try.ntmps43 rfl hS fun a w hS => ?_
  have hM := hm; clear hm
  rw [slices_insertionSortCmpFunc_huff_packet__b6e1_dee5.m] at hM
  have hs2728 : ∀ q ∈ p2719, q ∈ p2719 := fun _ h => h
  have hz2729 : rw2722.length = rw2722.length := rfl
  refine wp_seq ?_
  refine wp_region_list ?_
  refine st1 hS (mv rfl) rfl fun a w hS => ?_
  refine st1 hS (bin rfl rfl rfl) rfl fun a w hS => ?_
  refine st1x (v := Value.int .i64) hS (asg rfl) rfl fun i2730 a w hz hS => ?_
  have hM := lt_to hz hM; clear hz
  refine wpList_nil ?_
  refine then_n ?_
  refine wp_block ?_
  refine s_loopJ (fun k2902 a w => ∃ (rw2895 : List (Row 2)) (data2896 : (List T_huff_packet)) (f2897 : Frag) (i2901 : Int), Ss 53 [] [(0, .slice A2720 rw2895.length c2721), (1, .int .i64 a_2726), (2, .int .i64 b_2727), (3, fnv 41 [] []), (8, .int .i64 i2901)] H [p2719, f2897] F a w ∧ (Vec 70 (Row.v (sz := 2)) 2 A2720 rw2895 c2721 f2897) ∧ (RelL (R_huff_packet p2719) data2896 rw2895) ∧ (rw2895.length = rw2722.length) ∧ (slices_insertionSortCmpFunc_huff_packet__b6e1_dee5.l1 K a_2726 b_2727 k2902 data2896 i2901).wp kr kp) K ?_ ?_ ?_
  · exact ⟨rw2722, data2718, f2724, i2730, hS.to [0, 1] (by kernel_rfl) ⟨rfl, rfl, rfl, rfl, rfl, trivial⟩, hV2725, hr2723, hz2729, hM⟩
  · intro a w hI; obtain ⟨_, _, _, _, _, _, _, _, hM⟩ := hI; exact hM
  · intro k2902 a w hI J3040 hJ3040
    obtain ⟨rw2895, data2896, f2897, i2901, hS, hV2898, hr2899, hz2900, hM⟩ := hI
    rw [slices_insertionSortCmpFunc_huff_packet__b6e1_dee5.l1] at hM
    refine wp_seq ?_
    refine wp_seq ?_
    refine wp_region_list ?_
    refine st1 hS (mv rfl) rfl fun a w hS => ?_
    refine st1 hS (mv rfl) rfl fun a w hS => ?_
    refine st1 hS (bin rfl rfl rfl) rfl fun a w hS => ?_
    refine wpList_nil ?_
    refine then_n ?_
    refine s_cond hS rfl hM (fun hb2903 hM => ?_) (fun hb2903 hM => ?_)
    · refine wp_skip ?_
      refine then_n ?_
      refine wp_seq ?_
      refine wp_block ?_
      refine wp_seq ?_
      refine wp_region_list ?_
      refine st1 hS (mv rfl) rfl fun a w hS => ?_
      refine st1 hS (asg rfl) rfl fun a w hS => ?_
      refine wpList_nil ?_
      refine then_n ?_
      refine wp_block ?_
      refine s_loopJ (fun k2979 a w => ∃ (rw2972 : List (Row 2)) (data2973 : (List T_huff_packet)) (f2974 : Frag) (j2978 : Int), Ss 53 [] [(0, .slice A2720 rw2972.length c2721), (1, .int .i64 a_2726), (2, .int .i64 b_2727), (3, fnv 41 [] []), (8, .int .i64 i2901), (9, .int .i64 j2978)] H [p2719, f2974] F a w ∧ (Vec 70 (Row.v (sz := 2)) 2 A2720 rw2972 c2721 f2974) ∧ (RelL (R_huff_packet p2719) data2973 rw2972) ∧ (rw2972.length = rw2722.length) ∧ (slices_insertionSortCmpFunc_huff_packet__b6e1_dee5.l2 K (slices_insertionSortCmpFunc_huff_packet__b6e1_dee5.l1 K a_2726 b_2727 k2902) a_2726 i2901 k2979 data2973 j2978).wp kr kp) K ?_ ?_ ?_
      · exact ⟨rw2895, data2896, f2897, i2901, hS.to [0, 1] (by kernel_rfl) ⟨rfl, rfl, rfl, rfl, rfl, rfl, trivial⟩, hV2898, hr2899, hz2900, hM⟩
      · intro a w hI; obtain ⟨_, _, _, _, _, _, _, _, hM⟩ := hI; exact hM
      · intro k2979 a w hI J3039 hJ3039
        obtain ⟨rw2972, data2973, f2974, j2978, hS, hV2975, hr2976, hz2977, hM⟩ := hI
        rw [slices_insertionSortCmpFunc_huff_packet__b6e1_dee5.l2] at hM
        refine wp_seq ?_
        refine seq_joinJ (fun a w => ∃ (v2996 : Bool), Ss 53 [] [(0, .slice A2720 rw2972.length c2721), (1, .int .i64 a_2726), (2, .int .i64 b_2727), (3, fnv 41 [] []), (8, .int .i64 i2901), (9, .int .i64 j2978), (34, .bool v2996)] H [p2719, f2974] F a w ∧ (slices_insertionSortCmpFunc_huff_packet__b6e1_dee5.j3 K (slices_insertionSortCmpFunc_huff_packet__b6e1_dee5.l1 K a_2726 b_2727 k2902) (slices_insertionSortCmpFunc_huff_packet__b6e1_dee5.l2 K (slices_insertionSortCmpFunc_huff_packet__b6e1_dee5.l1 K a_2726 b_2727 k2902) a_2726 i2901 k2979) i2901 data2973 j2978 v2996).wp kr kp) (fun J2997 hJ2997 => ?_) ?_
        · refine ifB (b := (decide (j2978 > a_2726))) hM (fun hb2980 hM => ?_) (fun hb2980 hM => ?_)
          · obtain ⟨hk2982, hM⟩ := wp_chk hM
            obtain ⟨A2983, c2984, hw2987, hp2985, hc2986⟩ := hr2976.get hk2982
            obtain ⟨hk2989, hM⟩ := wp_chk hM
            obtain ⟨A2990, c2991, hw2994, hp2992, hc2993⟩ := hr2976.get hk2989
            refine draw_begin (vals := [some (.int .i64 j2978), some (.int .i64 a_2726), some (.bool true), some (.bool true), some (fnv 41 [] []), some (.slice A2720 rw2972.length c2721), some (.int .i64 j2978), some (slp A2720 (Int.toNat j2978 * 2)), some (.agg ⟨[.int .i64 ((rd data2973 j2978).often_), .slice A2983 ((rd data2973 j2978).symbols_).length c2984]⟩), some (.slice A2720 rw2972.length c2721), some (.int .i64 j2978), some (.int .i64 (w64 (j2978 - (1 : Int)))), some (slp A2720 (Int.toNat (w64 (j2978 - (1 : Int))) * 2)), some (.agg ⟨[.int .i64 ((rd data2973 (w64 (j2978 - (1 : Int)))).often_), .slice A2990 ((rd data2973 (w64 (j2978 - (1 : Int)))).symbols_).length c2991]⟩), none, none, none]) hS mixed rfl ?_
            intro l w ho hcl hA hst
            refine phase' (vals := [some (.int .i64 j2978), some (.int .i64 a_2726), some (.bool true), some (.bool true), some (fnv 41 [] []), some (.slice A2720 rw2972.length c2721), some (.int .i64 j2978), some (slp A2720 (Int.toNat j2978 * 2)), some (.agg ⟨[.int .i64 ((rd data2973 j2978).often_), .slice A2983 ((rd data2973 j2978).symbols_).length c2984]⟩), some (.slice A2720 rw2972.length c2721), some (.int .i64 j2978), some (.int .i64 (w64 (j2978 - (1 : Int)))), some (slp A2720 (Int.toNat (w64 (j2978 - (1 : Int))) * 2)), some (.agg ⟨[.int .i64 ((rd data2973 (w64 (j2978 - (1 : Int)))).often_), .slice A2990 ((rd data2973 (w64 (j2978 - (1 : Int)))).symbols_).length c2991]⟩), none, none, none]) 14 [] [0, 1, 2, 3, 4, 5, 6, 7, 8, 9, 10, 11, 12, 13] rfl rfl rfl rfl (by exact ⟨nR rfl rfl rfl rfl rfl (by exact ovE (mv rfl) rfl), nR rfl rfl rfl rfl rfl (by exact ovE (mv rfl) rfl), nR rfl rfl rfl rfl rfl (by exact ovE (bin rfl rfl rfl) (congrArg Value.bool hb2980)), nR rfl rfl rfl rfl rfl (by exact ovE (mv rfl) rfl), nW rfl rfl rfl rfl rfl rfl rfl rfl (by exact ovE (mv rfl) rfl), nW rfl rfl rfl rfl rfl rfl rfl rfl (by exact ovE (mv rfl) rfl), nW rfl rfl rfl rfl rfl rfl rfl rfl (by exact ovE (mv rfl) rfl), nW rfl rfl rfl rfl rfl rfl rfl rfl (by exact ovE (ixV rfl rfl Try.runUnderlying68 Try.sizeOf70 (hV2975.rd (i := 1) rfl) Row.len rfl (hr2976.inb hk2982)) rfl), nW rfl rfl rfl rfl rfl rfl rfl rfl (by exact ovE (ovE (ldVA rfl (hV2975.rd (i := 1) rfl) Row.len (hr2976.inb hk2982) Try.isAgg70 Try.sizeOf70 rfl) (congrArg (fun l => Value.agg ⟨l⟩) hw2987)) rfl), nW rfl rfl rfl rfl rfl rfl rfl rfl (by exact ovE (mv rfl) rfl), nW rfl rfl rfl rfl rfl rfl rfl rfl (by exact ovE (mv rfl) rfl), nW rfl rfl rfl rfl rfl rfl rfl rfl (by exact ovE (bin rfl rfl rfl) rfl), nW rfl rfl rfl rfl rfl rfl rfl rfl (by exact ovE (ixV rfl rfl Try.runUnderlying68 Try.sizeOf70 (hV2975.rd (i := 1) rfl) Row.len rfl (hr2976.inb hk2989)) rfl), nW rfl rfl rfl rfl rfl rfl rfl rfl (by exact ovE (ovE (ldVA rfl (hV2975.rd (i := 1) rfl) Row.len (hr2976.inb hk2989) Try.isAgg70 Try.sizeOf70 rfl) (congrArg (fun l => Value.agg ⟨l⟩) hw2994)) rfl), trivial⟩) (fun D l a w ho hcl hav hpre hm hE hk hA hst => ?_) ho hcl (fun j hj => (List.not_mem_nil hj).elim) (fun m hm => (List.not_mem_nil hm).elim) List.not_mem_nil hA hst
            have hS := (Ss.mk hE hst).env2 (e' := [(21, .bool true), (22, fnv 41 [] []), (26, .agg ⟨[.int .i64 ((rd data2973 j2978).often_), .slice A2983 ((rd data2973 j2978).symbols_).length c2984]⟩), (31, .agg ⟨[.int .i64 ((rd data2973 (w64 (j2978 - (1 : Int)))).often_), .slice A2990 ((rd data2973 (w64 (j2978 - (1 : Int)))).symbols_).length c2991]⟩)]) ⟨rfl, rfl, rfl, rfl, trivial⟩
            refine op_of_nth rfl ?_
            refine unguard hS rfl rfl rfl rfl ?_
            refine s_callV hS rfl rfl Try.call41 (huff_merged_1_c hG K (T_huff_packet.mk ((rd data2973 j2978).often_) ((rd data2973 j2978).symbols_)) (T_huff_packet.mk ((rd data2973 (w64 (j2978 - (1 : Int)))).often_) ((rd data2973 (w64 (j2978 - (1 : Int)))).symbols_)) A2983 c2984 A2990 c2991 (hp2985.rdF (i := 0) rfl) hc2986 (hp2992.rdF (i := 0) rfl) hc2993 (hS.st.part 0 [0, 1] (by kernel_rfl)) (wp_bind hM) (fun x2995 w hM  hst => s_back hS.ev hst.appF rfl fun hS => ?_))
            replace hS : Ss _ _ _ H [p2719, f2974] F _ _ := hS
            refine wpList_nil (then_n ?_)
            have hcl2 := hcl.cons (k := 14) (nth_get rfl) hpre
            have hmust := must_cons (k := 14) hm (chain (k := 14) hcl (nth_get rfl) hpre [(3, 14), (4, 14), (8, 14), (13, 14), (2, 3), (7, 8), (12, 13), (0, 2), (1, 2), (5, 7), (6, 7), (9, 12), (11, 12), (10, 11)] [] rfl (fun _ h => absurd h List.not_mem_nil))
            replace hst := hS.st
            have hav2 := hav.cons (vals' := [some (.int .i64 j2978), some (.int .i64 a_2726), some (.bool true), some (.bool true), some (fnv 41 [] []), some (.slice A2720 rw2972.length c2721), some (.int .i64 j2978), some (slp A2720 (Int.toNat j2978 * 2)), some (.agg ⟨[.int .i64 ((rd data2973 j2978).often_), .slice A2983 ((rd data2973 j2978).symbols_).length c2984]⟩), some (.slice A2720 rw2972.length c2721), some (.int .i64 j2978), some (.int .i64 (w64 (j2978 - (1 : Int)))), some (slp A2720 (Int.toNat (w64 (j2978 - (1 : Int))) * 2)), some (.agg ⟨[.int .i64 ((rd data2973 (w64 (j2978 - (1 : Int)))).often_), .slice A2990 ((rd data2973 (w64 (j2978 - (1 : Int)))).symbols_).length c2991]⟩), some (.int .i64 x2995), some (.bool (decide (x2995 < (0 : Int)))), some (.bool (decide (x2995 < (0 : Int))))]) (k := 14) ⟨rfl, rfl, rfl, rfl, rfl, rfl, rfl, rfl, rfl, rfl, rfl, rfl, rfl, rfl, trivial⟩ rfl
            replace hA := (hA.next hav (subV.get (l' := [some (.int .i64 j2978), some (.int .i64 a_2726), some (.bool true), some (.bool true), some (fnv 41 [] []), some (.slice A2720 rw2972.length c2721), some (.int .i64 j2978), some (slp A2720 (Int.toNat j2978 * 2)), some (.agg ⟨[.int .i64 ((rd data2973 j2978).often_), .slice A2983 ((rd data2973 j2978).symbols_).length c2984]⟩), some (.slice A2720 rw2972.length c2721), some (.int .i64 j2978), some (.int .i64 (w64 (j2978 - (1 : Int)))), some (slp A2720 (Int.toNat (w64 (j2978 - (1 : Int))) * 2)), some (.agg ⟨[.int .i64 ((rd data2973 (w64 (j2978 - (1 : Int)))).often_), .slice A2990 ((rd data2973 (w64 (j2978 - (1 : Int)))).symbols_).length c2991]⟩), some (.int .i64 x2995), some (.bool (decide (x2995 < (0 : Int)))), some (.bool (decide (x2995 < (0 : Int))))]) ⟨rfl, rfl, rfl, rfl, rfl, rfl, rfl, rfl, rfl, rfl, rfl, rfl, rfl, rfl, trivial⟩)).step rfl (nth_get rfl) hk rfl rfl rfl
            clear hm hav
            replace hcl := hcl2
            refine phaseE (vals := [some (.int .i64 j2978), some (.int .i64 a_2726), some (.bool true), some (.bool true), some (fnv 41 [] []), some (.slice A2720 rw2972.length c2721), some (.int .i64 j2978), some (slp A2720 (Int.toNat j2978 * 2)), some (.agg ⟨[.int .i64 ((rd data2973 j2978).often_), .slice A2983 ((rd data2973 j2978).symbols_).length c2984]⟩), some (.slice A2720 rw2972.length c2721), some (.int .i64 j2978), some (.int .i64 (w64 (j2978 - (1 : Int)))), some (slp A2720 (Int.toNat (w64 (j2978 - (1 : Int))) * 2)), some (.agg ⟨[.int .i64 ((rd data2973 (w64 (j2978 - (1 : Int)))).often_), .slice A2990 ((rd data2973 (w64 (j2978 - (1 : Int)))).symbols_).length c2991]⟩), some (.int .i64 x2995), some (.bool (decide (x2995 < (0 : Int)))), some (.bool (decide (x2995 < (0 : Int))))]) [14, 3, 4, 8, 13, 2, 7, 12, 0, 1, 5, 6, 9, 11, 10] [15, 16] rfl rfl rfl (by exact ⟨nW rfl rfl rfl rfl rfl rfl rfl rfl (by exact ovE (bin rfl rfl rfl) rfl), nR rfl rfl rfl rfl rfl (by exact ovE (pk rfl rfl rfl) rfl), trivial⟩) (fun a w hS => ?_) ho hcl hmust hA hst
            replace hS := hS.env2 (e' := [(0, .slice A2720 rw2972.length c2721), (1, .int .i64 a_2726), (2, .int .i64 b_2727), (3, fnv 41 [] []), (8, .int .i64 i2901), (9, .int .i64 j2978), (34, .bool (decide (x2995 < (0 : Int))))]) ⟨rfl, rfl, rfl, rfl, rfl, rfl, rfl, trivial⟩
            refine then_n ?_
            exact hJ2997 _ _ ⟨(decide (x2995 < (0 : Int))), hS.to [0, 1] (by kernel_rfl) ⟨rfl, rfl, rfl, rfl, rfl, rfl, rfl, trivial⟩, hM⟩
          · refine draw_begin (vals := [some (.int .i64 j2978), some (.int .i64 a_2726), some (.bool false), some (.bool false), some (undef), some (undef), some (undef), some (undef), some (undef), some (undef), some (undef), some (undef), some (undef), some (undef), some (undef), some (undef), some (.bool false)]) hS mixed rfl ?_
            intro l w ho hcl hA hst
            refine phaseE (vals := [some (.int .i64 j2978), some (.int .i64 a_2726), some (.bool false), some (.bool false), some (undef), some (undef), some (undef), some (undef), some (undef), some (undef), some (undef), some (undef), some (undef), some (undef), some (undef), some (undef), some (.bool false)]) [] [0, 1, 2, 3, 4, 5, 6, 7, 8, 9, 10, 11, 12, 13, 14, 15, 16] rfl rfl rfl (by exact ⟨nR rfl rfl rfl rfl rfl (by exact ovE (mv rfl) rfl), nR rfl rfl rfl rfl rfl (by exact ovE (mv rfl) rfl), nR rfl rfl rfl rfl rfl (by exact ovE (bin rfl rfl rfl) (congrArg Value.bool hb2980)), nR rfl rfl rfl rfl rfl (by exact ovE (mv rfl) rfl), nS rfl rfl rfl rfl rfl rfl rfl rfl rfl, nS rfl rfl rfl rfl rfl rfl rfl rfl rfl, nS rfl rfl rfl rfl rfl rfl rfl rfl rfl, nS rfl rfl rfl rfl rfl rfl rfl rfl rfl, nS rfl rfl rfl rfl rfl rfl rfl rfl rfl, nS rfl rfl rfl rfl rfl rfl rfl rfl rfl, nS rfl rfl rfl rfl rfl rfl rfl rfl rfl, nS rfl rfl rfl rfl rfl rfl rfl rfl rfl, nS rfl rfl rfl rfl rfl rfl rfl rfl rfl, nS rfl rfl rfl rfl rfl rfl rfl rfl rfl, nS rfl rfl rfl rfl rfl rfl rfl rfl rfl, nS rfl rfl rfl rfl rfl rfl rfl rfl rfl, nR rfl rfl rfl rfl rfl (by exact ovE (pk rfl rfl rfl) rfl), trivial⟩) (fun a w hS => ?_) ho hcl (fun m hm => (List.not_mem_nil hm).elim) hA hst
            replace hS := hS.env2 (e' := [(0, .slice A2720 rw2972.length c2721), (1, .int .i64 a_2726), (2, .int .i64 b_2727), (3, fnv 41 [] []), (8, .int .i64 i2901), (9, .int .i64 j2978), (34, .bool false)]) ⟨rfl, rfl, rfl, rfl, rfl, rfl, rfl, trivial⟩
            refine then_n ?_
            exact hJ2997 _ _ ⟨false, hS.to [0, 1] (by kernel_rfl) ⟨rfl, rfl, rfl, rfl, rfl, rfl, rfl, trivial⟩, hM⟩
        · intro a w hI
          obtain ⟨v2996, hS, hM⟩ := hI
          rw [slices_insertionSortCmpFunc_huff_packet__b6e1_dee5.j3] at hM
          refine s_cond hS rfl hM (fun hb2998 hM => ?_) (fun hb2998 hM => ?_)
          · refine wp_skip ?_
            refine then_n ?_
            refine wp_seq ?_
            refine wp_block ?_
            obtain ⟨hk3001, hM⟩ := wp_chk hM
            obtain ⟨A3002, c3003, hw3006, hp3004, hc3005⟩ := hr2976.get hk3001
            obtain ⟨hk3008, hM⟩ := wp_chk hM
            obtain ⟨A3009, c3010, hw3013, hp3011, hc3012⟩ := hr2976.get hk3008
            refine draw_begin (vals := [some (.slice A2720 rw2972.length c2721), some (.int .i64 j2978), some (.slice A2720 rw2972.length c2721), some (.int .i64 j2978), some (.int .i64 (w64 (j2978 - (1 : Int)))), some (.slice A2720 rw2972.length c2721), some (.int .i64 j2978), some (.int .i64 (w64 (j2978 - (1 : Int)))), some (slp A2720 (Int.toNat (w64 (j2978 - (1 : Int))) * 2)), some (.agg ⟨[.int .i64 ((rd data2973 (w64 (j2978 - (1 : Int)))).often_), .slice A3002 ((rd data2973 (w64 (j2978 - (1 : Int)))).symbols_).length c3003]⟩), some (.slice A2720 rw2972.length c2721), some (.int .i64 j2978), some (slp A2720 (Int.toNat j2978 * 2)), some (.agg ⟨[.int .i64 ((rd data2973 j2978).often_), .slice A3009 ((rd data2973 j2978).symbols_).length c3010]⟩), some (slp A2720 (Int.toNat j2978 * 2)), none, none, none]) hS mixed rfl ?_
            intro l w ho hcl hA hst
            refine phase' (vals := [some (.slice A2720 rw2972.length c2721), some (.int .i64 j2978), some (.slice A2720 rw2972.length c2721), some (.int .i64 j2978), some (.int .i64 (w64 (j2978 - (1 : Int)))), some (.slice A2720 rw2972.length c2721), some (.int .i64 j2978), some (.int .i64 (w64 (j2978 - (1 : Int)))), some (slp A2720 (Int.toNat (w64 (j2978 - (1 : Int))) * 2)), some (.agg ⟨[.int .i64 ((rd data2973 (w64 (j2978 - (1 : Int)))).often_), .slice A3002 ((rd data2973 (w64 (j2978 - (1 : Int)))).symbols_).length c3003]⟩), some (.slice A2720 rw2972.length c2721), some (.int .i64 j2978), some (slp A2720 (Int.toNat j2978 * 2)), some (.agg ⟨[.int .i64 ((rd data2973 j2978).often_), .slice A3009 ((rd data2973 j2978).symbols_).length c3010]⟩), some (slp A2720 (Int.toNat j2978 * 2)), none, none, none]) 15 [] [0, 1, 2, 3, 4, 5, 6, 7, 8, 9, 10, 11, 12, 13, 14] rfl rfl rfl rfl (by exact ⟨nR rfl rfl rfl rfl rfl (by exact ovE (mv rfl) rfl), nR rfl rfl rfl rfl rfl (by exact ovE (mv rfl) rfl), nR rfl rfl rfl rfl rfl (by exact ovE (mv rfl) rfl), nR rfl rfl rfl rfl rfl (by exact ovE (mv rfl) rfl), nR rfl rfl rfl rfl rfl (by exact ovE (bin rfl rfl rfl) rfl), nR rfl rfl rfl rfl rfl (by exact ovE (mv rfl) rfl), nR rfl rfl rfl rfl rfl (by exact ovE (mv rfl) rfl), nR rfl rfl rfl rfl rfl (by exact ovE (bin rfl rfl rfl) rfl), nR rfl rfl rfl rfl rfl (by exact ovE (ixV rfl rfl Try.runUnderlying68 Try.sizeOf70 (hV2975.rd (i := 1) rfl) Row.len rfl (hr2976.inb hk3001)) rfl), nR rfl rfl rfl rfl rfl (by exact ovE (ovE (ldVA rfl (hV2975.rd (i := 1) rfl) Row.len (hr2976.inb hk3001) Try.isAgg70 Try.sizeOf70 rfl) (congrArg (fun l => Value.agg ⟨l⟩) hw3006)) rfl), nR rfl rfl rfl rfl rfl (by exact ovE (mv rfl) rfl), nR rfl rfl rfl rfl rfl (by exact ovE (mv rfl) rfl), nR rfl rfl rfl rfl rfl (by exact ovE (ixV rfl rfl Try.runUnderlying68 Try.sizeOf70 (hV2975.rd (i := 1) rfl) Row.len rfl (hr2976.inb hk3008)) rfl), nR rfl rfl rfl rfl rfl (by exact ovE (ovE (ldVA rfl (hV2975.rd (i := 1) rfl) Row.len (hr2976.inb hk3008) Try.isAgg70 Try.sizeOf70 rfl) (congrArg (fun l => Value.agg ⟨l⟩) hw3013)) rfl), nR rfl rfl rfl rfl rfl (by exact ovE (ixV rfl rfl Try.runUnderlying68 Try.sizeOf70 (hV2975.rd (i := 1) rfl) Row.len rfl (hr2976.inb hk3008)) rfl), trivial⟩) (fun D l a w ho hcl hav hpre hm hE hk hA hst => ?_) ho hcl (fun j hj => (List.not_mem_nil hj).elim) (fun m hm => (List.not_mem_nil hm).elim) List.not_mem_nil hA hst
            have hS := (Ss.mk hE hst).env2 (e' := [(46, .agg ⟨[.int .i64 ((rd data2973 (w64 (j2978 - (1 : Int)))).often_), .slice A3002 ((rd data2973 (w64 (j2978 - (1 : Int)))).symbols_).length c3003]⟩), (51, slp A2720 (Int.toNat j2978 * 2))]) ⟨rfl, rfl, trivial⟩
            refine op_of_nth rfl ?_
            refine stVR 1 (⟨[.int .i64 ((rd data2973 (w64 (j2978 - (1 : Int)))).often_), .slice A3002 ((rd data2973 (w64 (j2978 - (1 : Int)))).symbols_).length c3003], by simp, by simp [Value.oneCell']⟩ : Row 2) hS rfl rfl hV2975 rfl Try.sizeOf70 rfl (hr2976.inb hk3008) fun rw3020 w f3018 hz hV3019 hS => ?_
            obtain ⟨zs3021, hzm⟩ : ∃ z, z = data2973.set (Int.toNat j2978) (T_huff_packet.mk ((rd data2973 (w64 (j2978 - (1 : Int)))).often_) ((rd data2973 (w64 (j2978 - (1 : Int)))).symbols_)) := ⟨_, rfl⟩
            replace hM := lt_to hzm hM
            have hr3022 := RelL.set (x := (T_huff_packet.mk ((rd data2973 (w64 (j2978 - (1 : Int)))).often_) ((rd data2973 (w64 (j2978 - (1 : Int)))).symbols_))) (r := (⟨[.int .i64 ((rd data2973 (w64 (j2978 - (1 : Int)))).often_), .slice A3002 ((rd data2973 (w64 (j2978 - (1 : Int)))).symbols_).length c3003], by simp, by simp [Value.oneCell']⟩ : Row 2)) (Int.toNat j2978) hr2976 (show R_huff_packet p2719 _ _ from ⟨A3002, c3003, rfl, hp3004, hc3005⟩)
            have hz3023 : rw3020.length = rw2972.length := by rw [hz]; exact List.length_set ..
            rw [← hz, ← hzm] at hr3022; clear hz hzm
            have hz3024 := Eq.trans hz3023 hz2977
            refine wpList_nil (then_n ?_)
            have hcl2 := hcl.cons (k := 15) (nth_get rfl) hpre
            have hmust := must_cons (k := 15) hm (chain (k := 15) hcl (nth_get rfl) hpre [(0, 15), (1, 15), (5, 15), (6, 15), (7, 15), (8, 15), (9, 15), (13, 15), (14, 15), (12, 13), (10, 12), (11, 12)] [] rfl (fun _ h => absurd h List.not_mem_nil))
            replace hst := hS.st
            obtain ⟨hk3026, hM⟩ := wp_chk hM
            have hav2 := hav.cons (vals' := [some (.slice A2720 rw2972.length c2721), some (.int .i64 j2978), some (.slice A2720 rw2972.length c2721), some (.int .i64 j2978), some (.int .i64 (w64 (j2978 - (1 : Int)))), some (.slice A2720 rw2972.length c2721), some (.int .i64 j2978), some (.int .i64 (w64 (j2978 - (1 : Int)))), some (slp A2720 (Int.toNat (w64 (j2978 - (1 : Int))) * 2)), some (.agg ⟨[.int .i64 ((rd data2973 (w64 (j2978 - (1 : Int)))).often_), .slice A3002 ((rd data2973 (w64 (j2978 - (1 : Int)))).symbols_).length c3003]⟩), some (.slice A2720 rw2972.length c2721), some (.int .i64 j2978), some (slp A2720 (Int.toNat j2978 * 2)), some (.agg ⟨[.int .i64 ((rd data2973 j2978).often_), .slice A3009 ((rd data2973 j2978).symbols_).length c3010]⟩), some (slp A2720 (Int.toNat j2978 * 2)), some undef, some (slp A2720 (Int.toNat (w64 (j2978 - (1 : Int))) * 2)), none]) (k := 15) ⟨rfl, rfl, rfl, rfl, rfl, rfl, rfl, rfl, rfl, rfl, rfl, rfl, rfl, rfl, rfl, trivial⟩ rfl
            replace hA := (hA.next hav (subV.get (l' := [some (.slice A2720 rw2972.length c2721), some (.int .i64 j2978), some (.slice A2720 rw2972.length c2721), some (.int .i64 j2978), some (.int .i64 (w64 (j2978 - (1 : Int)))), some (.slice A2720 rw2972.length c2721), some (.int .i64 j2978), some (.int .i64 (w64 (j2978 - (1 : Int)))), some (slp A2720 (Int.toNat (w64 (j2978 - (1 : Int))) * 2)), some (.agg ⟨[.int .i64 ((rd data2973 (w64 (j2978 - (1 : Int)))).often_), .slice A3002 ((rd data2973 (w64 (j2978 - (1 : Int)))).symbols_).length c3003]⟩), some (.slice A2720 rw2972.length c2721), some (.int .i64 j2978), some (slp A2720 (Int.toNat j2978 * 2)), some (.agg ⟨[.int .i64 ((rd data2973 j2978).often_), .slice A3009 ((rd data2973 j2978).symbols_).length c3010]⟩), some (slp A2720 (Int.toNat j2978 * 2)), some undef, some (slp A2720 (Int.toNat (w64 (j2978 - (1 : Int))) * 2)), none]) ⟨rfl, rfl, rfl, rfl, rfl, rfl, rfl, rfl, rfl, rfl, rfl, rfl, rfl, rfl, rfl, trivial⟩)).stepN (i := 15) (nth_get rfl) rfl
            clear hm hav
            replace hcl := hcl2
            refine phase' (vals := [some (.slice A2720 rw2972.length c2721), some (.int .i64 j2978), some (.slice A2720 rw2972.length c2721), some (.int .i64 j2978), some (.int .i64 (w64 (j2978 - (1 : Int)))), some (.slice A2720 rw2972.length c2721), some (.int .i64 j2978), some (.int .i64 (w64 (j2978 - (1 : Int)))), some (slp A2720 (Int.toNat (w64 (j2978 - (1 : Int))) * 2)), some (.agg ⟨[.int .i64 ((rd data2973 (w64 (j2978 - (1 : Int)))).often_), .slice A3002 ((rd data2973 (w64 (j2978 - (1 : Int)))).symbols_).length c3003]⟩), some (.slice A2720 rw2972.length c2721), some (.int .i64 j2978), some (slp A2720 (Int.toNat j2978 * 2)), some (.agg ⟨[.int .i64 ((rd data2973 j2978).often_), .slice A3009 ((rd data2973 j2978).symbols_).length c3010]⟩), some (slp A2720 (Int.toNat j2978 * 2)), some undef, some (slp A2720 (Int.toNat (w64 (j2978 - (1 : Int))) * 2)), none]) 17 [15, 0, 1, 5, 6, 7, 8, 9, 13, 14, 12, 10, 11] [2, 3, 4, 16] rfl rfl rfl rfl (by exact ⟨nR rfl rfl rfl rfl rfl (by exact ovE (mv rfl) rfl), nR rfl rfl rfl rfl rfl (by exact ovE (mv rfl) rfl), nR rfl rfl rfl rfl rfl (by exact ovE (bin rfl rfl rfl) rfl), nR rfl rfl rfl rfl rfl (by exact ovE (ixV (lenx hz3023 rfl) rfl Try.runUnderlying68 Try.sizeOf70 (hV3019.rd (i := 1) rfl) Row.len rfl (hr3022.inb hk3026)) rfl), trivial⟩) (fun D l a w ho hcl hav hpre hm hE hk hA hst => ?_) ho hcl hav2 hmust (hav2.notin rfl) hA hst
            have hS := (Ss.mk hE hst).env2 (e' := [(50, .agg ⟨[.int .i64 ((rd data2973 j2978).often_), .slice A3009 ((rd data2973 j2978).symbols_).length c3010]⟩), (52, slp A2720 (Int.toNat (w64 (j2978 - (1 : Int))) * 2))]) ⟨rfl, rfl, trivial⟩
            refine op_of_nth rfl ?_
            refine stVR 1 (⟨[.int .i64 ((rd data2973 j2978).often_), .slice A3009 ((rd data2973 j2978).symbols_).length c3010], by simp, by simp [Value.oneCell']⟩ : Row 2) hS rfl rfl hV3019 rfl Try.sizeOf70 rfl (hr3022.inb hk3026) fun rw3033 w f3031 hz hV3032 hS => ?_
            obtain ⟨zs3034, hzm⟩ : ∃ z, z = zs3021.set (Int.toNat (w64 (j2978 - (1 : Int)))) (T_huff_packet.mk ((rd data2973 j2978).often_) ((rd data2973 j2978).symbols_)) := ⟨_, rfl⟩
            replace hM := lt_to hzm hM
            have hr3035 := RelL.set (x := (T_huff_packet.mk ((rd data2973 j2978).often_) ((rd data2973 j2978).symbols_))) (r := (⟨[.int .i64 ((rd data2973 j2978).often_), .slice A3009 ((rd data2973 j2978).symbols_).length c3010], by simp, by simp [Value.oneCell']⟩ : Row 2)) (Int.toNat (w64 (j2978 - (1 : Int)))) hr3022 (show R_huff_packet p2719 _ _ from ⟨A3009, c3010, rfl, hp3011, hc3012⟩)
            have hz3036 : rw3033.length = rw3020.length := by rw [hz]; exact List.length_set ..
            rw [← hz, ← hzm] at hr3035; clear hz hzm
            have hz3037 := Eq.trans hz3036 hz3024
            refine wpList_nil (then_n ?_)
            have hcl2 := hcl.cons (k := 17) (nth_get rfl) hpre
            have hmust := must_cons (k := 17) hm (chain (k := 17) hcl (nth_get rfl) hpre [(0, 17), (1, 17), (2, 17), (3, 17), (4, 17), (5, 17), (6, 17), (7, 17), (8, 17), (9, 17), (10, 17), (11, 17), (12, 17), (13, 17), (14, 17), (15, 17), (16, 17)] [] rfl (fun _ h => absurd h List.not_mem_nil))
            replace hst := hS.st
            have hav2 := hav.cons (vals' := [some (.slice A2720 rw2972.length c2721), some (.int .i64 j2978), some (.slice A2720 rw2972.length c2721), some (.int .i64 j2978), some (.int .i64 (w64 (j2978 - (1 : Int)))), some (.slice A2720 rw2972.length c2721), some (.int .i64 j2978), some (.int .i64 (w64 (j2978 - (1 : Int)))), some (slp A2720 (Int.toNat (w64 (j2978 - (1 : Int))) * 2)), some (.agg ⟨[.int .i64 ((rd data2973 (w64 (j2978 - (1 : Int)))).often_), .slice A3002 ((rd data2973 (w64 (j2978 - (1 : Int)))).symbols_).length c3003]⟩), some (.slice A2720 rw2972.length c2721), some (.int .i64 j2978), some (slp A2720 (Int.toNat j2978 * 2)), some (.agg ⟨[.int .i64 ((rd data2973 j2978).often_), .slice A3009 ((rd data2973 j2978).symbols_).length c3010]⟩), some (slp A2720 (Int.toNat j2978 * 2)), some undef, some (slp A2720 (Int.toNat (w64 (j2978 - (1 : Int))) * 2)), some undef]) (k := 17) ⟨rfl, rfl, rfl, rfl, rfl, rfl, rfl, rfl, rfl, rfl, rfl, rfl, rfl, rfl, rfl, rfl, rfl, trivial⟩ rfl
            replace hA := (hA.next hav (subV.get (l' := [some (.slice A2720 rw2972.length c2721), some (.int .i64 j2978), some (.slice A2720 rw2972.length c2721), some (.int .i64 j2978), some (.int .i64 (w64 (j2978 - (1 : Int)))), some (.slice A2720 rw2972.length c2721), some (.int .i64 j2978), some (.int .i64 (w64 (j2978 - (1 : Int)))), some (slp A2720 (Int.toNat (w64 (j2978 - (1 : Int))) * 2)), some (.agg ⟨[.int .i64 ((rd data2973 (w64 (j2978 - (1 : Int)))).often_), .slice A3002 ((rd data2973 (w64 (j2978 - (1 : Int)))).symbols_).length c3003]⟩), some (.slice A2720 rw2972.length c2721), some (.int .i64 j2978), some (slp A2720 (Int.toNat j2978 * 2)), some (.agg ⟨[.int .i64 ((rd data2973 j2978).often_), .slice A3009 ((rd data2973 j2978).symbols_).length c3010]⟩), some (slp A2720 (Int.toNat j2978 * 2)), some undef, some (slp A2720 (Int.toNat (w64 (j2978 - (1 : Int))) * 2)), some undef]) ⟨rfl, rfl, rfl, rfl, rfl, rfl, rfl, rfl, rfl, rfl, rfl, rfl, rfl, rfl, rfl, rfl, rfl, trivial⟩)).stepN (i := 17) (nth_get rfl) rfl
            clear hm hav
            replace hcl := hcl2
            refine phaseE (vals := [some (.slice A2720 rw2972.length c2721), some (.int .i64 j2978), some (.slice A2720 rw2972.length c2721), some (.int .i64 j2978), some (.int .i64 (w64 (j2978 - (1 : Int)))), some (.slice A2720 rw2972.length c2721), some (.int .i64 j2978), some (.int .i64 (w64 (j2978 - (1 : Int)))), some (slp A2720 (Int.toNat (w64 (j2978 - (1 : Int))) * 2)), some (.agg ⟨[.int .i64 ((rd data2973 (w64 (j2978 - (1 : Int)))).often_), .slice A3002 ((rd data2973 (w64 (j2978 - (1 : Int)))).symbols_).length c3003]⟩), some (.slice A2720 rw2972.length c2721), some (.int .i64 j2978), some (slp A2720 (Int.toNat j2978 * 2)), some (.agg ⟨[.int .i64 ((rd data2973 j2978).often_), .slice A3009 ((rd data2973 j2978).symbols_).length c3010]⟩), some (slp A2720 (Int.toNat j2978 * 2)), some undef, some (slp A2720 (Int.toNat (w64 (j2978 - (1 : Int))) * 2)), some undef]) [17, 0, 1, 2, 3, 4, 5, 6, 7, 8, 9, 10, 11, 12, 13, 14, 15, 16, 15, 0, 1, 5, 6, 7, 8, 9, 13, 14, 12, 10, 11] [] rfl rfl rfl trivial (fun a w hS => ?_) ho hcl hmust hA hst
            replace hS := hS.env2 (e' := [(0, .slice A2720 rw3033.length c2721), (1, .int .i64 a_2726), (2, .int .i64 b_2727), (3, fnv 41 [] []), (8, .int .i64 i2901), (9, .int .i64 j2978)]) ⟨(relk (u := .slice A2720 rw2972.length c2721) rfl (by rw [hz3036, hz3023])), rfl, rfl, rfl, rfl, rfl, trivial⟩
            refine blk_n (then_n ?_)
            refine wp_region_list ?_
            refine st1 hS (mv rfl) rfl fun a w hS => ?_
            refine st1 hS (bin rfl rfl rfl) rfl fun a w hS => ?_
            refine st1x (v := Value.int .i64) hS (asg rfl) rfl fun j3038 a w hz hS => ?_
            have hM := lt_to hz hM; clear hz
            refine wpList_nil ?_
            refine then_n ?_
            exact hJ3039 _ _ ⟨rw3033, zs3034, f3031, j3038, hS.to [0, 1] (by kernel_rfl) ⟨rfl, rfl, rfl, rfl, rfl, rfl, trivial⟩, hV3032, hr3035, hz3037, hM⟩
          · refine wp_exit ?_
            refine then_ex (then_ex (blk_same (blk_n (then_n ?_))))
            refine wp_region_list ?_
            refine st1 hS (mv rfl) rfl fun a w hS => ?_
            refine st1 hS (bin rfl rfl rfl) rfl fun a w hS => ?_
            refine st1x (v := Value.int .i64) hS (asg rfl) rfl fun i2999 a w hz hS => ?_
            have hM := lt_to hz hM; clear hz
            refine wpList_nil ?_
            refine then_n ?_
            exact hJ3040 _ _ ⟨rw2972, data2973, f2974, i2999, hS.to [0, 1] (by kernel_rfl) ⟨rfl, rfl, rfl, rfl, rfl, trivial⟩, hV2975, hr2976, hz2977, hM⟩
    · refine wp_exit ?_
      refine then_ex (then_ex (blk_same ?_))
      exact s_end (rs := []) hS rfl rfl (hret rw2895 data2896 f2897 w hM hV2898 hr2899 hz2900 (hS.st.pick [0, 1] (by kernel_rfl)))

theorem slices_swapRangeCmpFunc_huff_packet__b6e1_b35e_c {H : Imm} {F : List Frag} {w : World} {R : Ending → World → Prop} {kr : (List T_huff_packet) → Prop} {kp : Value → Prop} (hG : Gl H) (K : Nat) (data3423 : List T_huff_packet) (a_3431 : Int) (b_3432 : Int) (n_3433 : Int) (p3424 : Frag) (A3425 : Option Addr) (c3426 : Nat) (rw3427 : List (Row 2)) (f3429 : Frag) (hr3428 : RelL (R_huff_packet p3424) data3423 rw3427) (hV3430 : Vec 70 (Row.v (sz := 2)) 2 A3425 rw3427 c3426 f3429)
    (hS : St w H [p3424, f3429] F) (hm : (slices_swapRangeCmpFunc_huff_packet__b6e1_b35e.m K data3423 a_3431 b_3432 n_3433).wp kr kp)
    (hret : ∀ (rw3534 : List (Row 2)) (data3535 : (List T_huff_packet)) (f3536 : Frag) (w : World), kr data3535 → (Vec 70 (Row.v (sz := 2)) 2 A3425 rw3534 c3426 f3536) → (RelL (R_huff_packet p3424) data3535 rw3534) → (rw3534.length = rw3427.length) → St w H [p3424, f3536] F → R (.returned (.tuple ⟨[]⟩)) w) :
    Calls Try.prog 48 ⟨[.slice A3425 rw3427.length c3426, .int .i64 a_3431, .int .i64 b_3432, .int .i64 n_3433, fnv 41 [] []]⟩ w R := by
  refine enter Try.func48 rfl Try.ntmps48 rfl hS fun a w hS => ?_
  have hM := hm; clear hm
  rw [slices_swapRangeCmpFunc_huff_packet__b6e1_b35e.m] at hM
  have hs3434 : ∀ q ∈ p3424, q ∈ p3424 := fun _ h => h
  have hz3435 : rw3427.length = rw3427.length := rfl
  refine wp_seq ?_
  refine wp_region_list ?_
  refine st1 hS (asg rfl) rfl fun a w hS => ?_
  refine wpList_nil ?_
  refine then_n ?_
  refine wp_block ?_
  refine s_loopJ (fun k3492 a w => ∃ (rw3485 : List (Row 2)) (data3486 : (List T_huff_packet)) (f3487 : Frag) (i3491 : Int), Ss 38 [] [(0, .slice A3425 rw3485.length c3426), (1, .int .i64 a_3431), (2, .int .i64 b_3432), (3, .int .i64 n_3433), (10, .int .i64 i3491)] H [p3424, f3487] F a w ∧ (Vec 70 (Row.v (sz := 2)) 2 A3425 rw3485 c3426 f3487) ∧ (RelL (R_huff_packet p3424) data3486 rw3485) ∧ (rw3485.length = rw3427.length) ∧ (slices_swapRangeCmpFunc_huff_packet__b6e1_b35e.l1 K a_3431 b_3432 n_3433 k3492 data3486 i3491).wp kr kp) K ?_ ?_ ?_
  · exact ⟨rw3427, data3423, f3429, (0 : Int), hS.to [0, 1] (by kernel_rfl) ⟨rfl, rfl, rfl, rfl, rfl, trivial⟩, hV3430, hr3428, hz3435, hM⟩
  · intro a w hI; obtain ⟨_, _, _, _, _, _, _, _, hM⟩ := hI; exact hM
  · intro k3492 a w hI J3533 hJ3533
    obtain ⟨rw3485, data3486, f3487, i3491, hS, hV3488, hr3489, hz3490, hM⟩ := hI
    rw [slices_swapRangeCmpFunc_huff_packet__b6e1_b35e.l1] at hM
    refine wp_seq ?_
    refine wp_seq ?_
    refine wp_region_list ?_
    refine st1 hS (mv rfl) rfl fun a w hS => ?_
    refine st1 hS (mv rfl) rfl fun a w hS => ?_
    refine st1 hS (bin rfl rfl rfl) rfl fun a w hS => ?_
    refine wpList_nil ?_
    refine then_n ?_
    refine s_cond hS rfl hM (fun hb3493 hM => ?_) (fun hb3493 hM => ?_)
    · refine wp_skip ?_
      refine then_n ?_
      refine wp_seq ?_
      refine wp_block ?_
      obtain ⟨hk3495, hM⟩ := wp_chk hM
      obtain ⟨A3496, c3497, hw3500, hp3498, hc3499⟩ := hr3489.get hk3495
      obtain ⟨hk3502, hM⟩ := wp_chk hM
      obtain ⟨A3503, c3504, hw3507, hp3505, hc3506⟩ := hr3489.get hk3502
      refine draw_begin (vals := [some (.slice A3425 rw3485.length c3426), some (.int .i64 a_3431), some (.int .i64 i3491), some (.int .i64 (w64 (a_3431 + i3491))), some (.slice A3425 rw3485.length c3426), some (.int .i64 b_3432), some (.int .i64 i3491), some (.int .i64 (w64 (b_3432 + i3491))), some (.slice A3425 rw3485.length c3426), some (.int .i64 b_3432), some (.int .i64 i3491), some (.int .i64 (w64 (b_3432 + i3491))), some (slp A3425 (Int.toNat (w64 (b_3432 + i3491)) * 2)), some (.agg ⟨[.int .i64 ((rd data3486 (w64 (b_3432 + i3491))).often_), .slice A3496 ((rd data3486 (w64 (b_3432 + i3491))).symbols_).length c3497]⟩), some (.slice A3425 rw3485.length c3426), some (.int .i64 a_3431), some (.int .i64 i3491), some (.int .i64 (w64 (a_3431 + i3491))), some (slp A3425 (Int.toNat (w64 (a_3431 + i3491)) * 2)), some (.agg ⟨[.int .i64 ((rd data3486 (w64 (a_3431 + i3491))).often_), .slice A3503 ((rd data3486 (w64 (a_3431 + i3491))).symbols_).length c3504]⟩), some (slp A3425 (Int.toNat (w64 (a_3431 + i3491)) * 2)), none, none, none]) hS mixed rfl ?_
      intro l w ho hcl hA hst
      refine phase' (vals := [some (.slice A3425 rw3485.length c3426), some (.int .i64 a_3431), some (.int .i64 i3491), some (.int .i64 (w64 (a_3431 + i3491))), some (.slice A3425 rw3485.length c3426), some (.int .i64 b_3432), some (.int .i64 i3491), some (.int .i64 (w64 (b_3432 + i3491))), some (.slice A3425 rw3485.length c3426), some (.int .i64 b_3432), some (.int .i64 i3491), some (.int .i64 (w64 (b_3432 + i3491))), some (slp A3425 (Int.toNat (w64 (b_3432 + i3491)) * 2)), some (.agg ⟨[.int .i64 ((rd data3486 (w64 (b_3432 + i3491))).often_), .slice A3496 ((rd data3486 (w64 (b_3432 + i3491))).symbols_).length c3497]⟩), some (.slice A3425 rw3485.length c3426), some (.int .i64 a_3431), some (.int .i64 i3491), some (.int .i64 (w64 (a_3431 + i3491))), some (slp A3425 (Int.toNat (w64 (a_3431 + i3491)) * 2)), some (.agg ⟨[.int .i64 ((rd data3486 (w64 (a_3431 + i3491))).often_), .slice A3503 ((rd data3486 (w64 (a_3431 + i3491))).symbols_).length c3504]⟩), some (slp A3425 (Int.toNat (w64 (a_3431 + i3491)) * 2)), none, none, none]) 21 [] [0, 1, 2, 3, 4, 5, 6, 7, 8, 9, 10, 11, 12, 13, 14, 15, 16, 17, 18, 19, 20] rfl rfl rfl rfl (by exact ⟨nR rfl rfl rfl rfl rfl (by exact ovE (mv rfl) rfl), nR rfl rfl rfl rfl rfl (by exact ovE (mv rfl) rfl), nR rfl rfl rfl rfl rfl (by exact ovE (mv rfl) rfl), nR rfl rfl rfl rfl rfl (by exact ovE (bin rfl rfl rfl) rfl), nR rfl rfl rfl rfl rfl (by exact ovE (mv rfl) rfl), nR rfl rfl rfl rfl rfl (by exact ovE (mv rfl) rfl), nR rfl rfl rfl rfl rfl (by exact ovE (mv rfl) rfl), nR rfl rfl rfl rfl rfl (by exact ovE (bin rfl rfl rfl) rfl), nR rfl rfl rfl rfl rfl (by exact ovE (mv rfl) rfl), nR rfl rfl rfl rfl rfl (by exact ovE (mv rfl) rfl), nR rfl rfl rfl rfl rfl (by exact ovE (mv rfl) rfl), nR rfl rfl rfl rfl rfl (by exact ovE (bin rfl rfl rfl) rfl), nR rfl rfl rfl rfl rfl (by exact ovE (ixV rfl rfl Try.runUnderlying68 Try.sizeOf70 (hV3488.rd (i := 1) rfl) Row.len rfl (hr3489.inb hk3495)) rfl), nR rfl rfl rfl rfl rfl (by exact ovE (ovE (ldVA rfl (hV3488.rd (i := 1) rfl) Row.len (hr3489.inb hk3495) Try.isAgg70 Try.sizeOf70 rfl) (congrArg (fun l => Value.agg ⟨l⟩) hw3500)) rfl), nR rfl rfl rfl rfl rfl (by exact ovE (mv rfl) rfl), nR rfl rfl rfl rfl rfl (by exact ovE (mv rfl) rfl), nR rfl rfl rfl rfl rfl (by exact ovE (mv rfl) rfl), nR rfl rfl rfl rfl rfl (by exact ovE (bin rfl rfl rfl) rfl), nR rfl rfl rfl rfl rfl (by exact ovE (ixV rfl rfl Try.runUnderlying68 Try.sizeOf70 (hV3488.rd (i := 1) rfl) Row.len rfl (hr3489.inb hk3502)) rfl), nR rfl rfl rfl rfl rfl (by exact ovE (ovE (ldVA rfl (hV3488.rd (i := 1) rfl) Row.len (hr3489.inb hk3502) Try.isAgg70 Try.sizeOf70 rfl) (congrArg (fun l => Value.agg ⟨l⟩) hw3507)) rfl), nR rfl rfl rfl rfl rfl (by exact ovE (ixV rfl rfl Try.runUnderlying68 Try.sizeOf70 (hV3488.rd (i := 1) rfl) Row.len rfl (hr3489.inb hk3502)) rfl), trivial⟩) (fun D l a w ho hcl hav hpre hm hE hk hA hst => ?_) ho hcl (fun j hj => (List.not_mem_nil hj).elim) (fun m hm => (List.not_mem_nil hm).elim) List.not_mem_nil hA hst
      have hS := (Ss.mk hE hst).env2 (e' := [(29, .agg ⟨[.int .i64 ((rd data3486 (w64 (b_3432 + i3491))).often_), .slice A3496 ((rd data3486 (w64 (b_3432 + i3491))).symbols_).length c3497]⟩), (36, slp A3425 (Int.toNat (w64 (a_3431 + i3491)) * 2))]) ⟨rfl, rfl, trivial⟩
      refine op_of_nth rfl ?_
      refine stVR 1 (⟨[.int .i64 ((rd data3486 (w64 (b_3432 + i3491))).often_), .slice A3496 ((rd data3486 (w64 (b_3432 + i3491))).symbols_).length c3497], by simp, by simp [Value.oneCell']⟩ : Row 2) hS rfl rfl hV3488 rfl Try.sizeOf70 rfl (hr3489.inb hk3502) fun rw3514 w f3512 hz hV3513 hS => ?_
      obtain ⟨zs3515, hzm⟩ : ∃ z, z = data3486.set (Int.toNat (w64 (a_3431 + i3491))) (T_huff_packet.mk ((rd data3486 (w64 (b_3432 + i3491))).often_) ((rd data3486 (w64 (b_3432 + i3491))).symbols_)) := ⟨_, rfl⟩
      replace hM := lt_to hzm hM
      have hr3516 := RelL.set (x := (T_huff_packet.mk ((rd data3486 (w64 (b_3432 + i3491))).often_) ((rd data3486 (w64 (b_3432 + i3491))).symbols_))) (r := (⟨[.int .i64 ((rd data3486 (w64 (b_3432 + i3491))).often_), .slice A3496 ((rd data3486 (w64 (b_3432 + i3491))).symbols_).length c3497], by simp, by simp [Value.oneCell']⟩ : Row 2)) (Int.toNat (w64 (a_3431 + i3491))) hr3489 (show R_huff_packet p3424 _ _ from ⟨A3496, c3497, rfl, hp3498, hc3499⟩)
      have hz3517 : rw3514.length = rw3485.length := by rw [hz]; exact List.length_set ..
      rw [← hz, ← hzm] at hr3516; clear hz hzm
      have hz3518 := Eq.trans hz3517 hz3490
      refine wpList_nil (then_n ?_)
      have hcl2 := hcl.cons (k := 21) (nth_get rfl) hpre
      have hmust := must_cons (k := 21) hm (chain (k := 21) hcl (nth_get rfl) hpre [(0, 21), (1, 21), (2, 21), (3, 21), (8, 21), (9, 21), (10, 21), (11, 21), (12, 21), (13, 21), (19, 21), (20, 21), (18, 19), (14, 18), (17, 18), (15, 17), (16, 17)] [] rfl (fun _ h => absurd h List.not_mem_nil))
      replace hst := hS.st
      obtain ⟨hk3520, hM⟩ := wp_chk hM
      have hav2 := hav.cons (vals' := [some (.slice A3425 rw3485.length c3426), some (.int .i64 a_3431), some (.int .i64 i3491), some (.int .i64 (w64 (a_3431 + i3491))), some (.slice A3425 rw3485.length c3426), some (.int .i64 b_3432), some (.int .i64 i3491), some (.int .i64 (w64 (b_3432 + i3491))), some (.slice A3425 rw3485.length c3426), some (.int .i64 b_3432), some (.int .i64 i3491), some (.int .i64 (w64 (b_3432 + i3491))), some (slp A3425 (Int.toNat (w64 (b_3432 + i3491)) * 2)), some (.agg ⟨[.int .i64 ((rd data3486 (w64 (b_3432 + i3491))).often_), .slice A3496 ((rd data3486 (w64 (b_3432 + i3491))).symbols_).length c3497]⟩), some (.slice A3425 rw3485.length c3426), some (.int .i64 a_3431), some (.int .i64 i3491), some (.int .i64 (w64 (a_3431 + i3491))), some (slp A3425 (Int.toNat (w64 (a_3431 + i3491)) * 2)), some (.agg ⟨[.int .i64 ((rd data3486 (w64 (a_3431 + i3491))).often_), .slice A3503 ((rd data3486 (w64 (a_3431 + i3491))).symbols_).length c3504]⟩), some (slp A3425 (Int.toNat (w64 (a_3431 + i3491)) * 2)), some undef, some (slp A3425 (Int.toNat (w64 (b_3432 + i3491)) * 2)), none]) (k := 21) ⟨rfl, rfl, rfl, rfl, rfl, rfl, rfl, rfl, rfl, rfl, rfl, rfl, rfl, rfl, rfl, rfl, rfl, rfl, rfl, rfl, rfl, trivial⟩ rfl
      replace hA := (hA.next hav (subV.get (l' := [some (.slice A3425 rw3485.length c3426), some (.int .i64 a_3431), some (.int .i64 i3491), some (.int .i64 (w64 (a_3431 + i3491))), some (.slice A3425 rw3485.length c3426), some (.int .i64 b_3432), some (.int .i64 i3491), some (.int .i64 (w64 (b_3432 + i3491))), some (.slice A3425 rw3485.length c3426), some (.int .i64 b_3432), some (.int .i64 i3491), some (.int .i64 (w64 (b_3432 + i3491))), some (slp A3425 (Int.toNat (w64 (b_3432 + i3491)) * 2)), some (.agg ⟨[.int .i64 ((rd data3486 (w64 (b_3432 + i3491))).often_), .slice A3496 ((rd data3486 (w64 (b_3432 + i3491))).symbols_).length c3497]⟩), some (.slice A3425 rw3485.length c3426), some (.int .i64 a_3431), some (.int .i64 i3491), some (.int .i64 (w64 (a_3431 + i3491))), some (slp A3425 (Int.toNat (w64 (a_3431 + i3491)) * 2)), some (.agg ⟨[.int .i64 ((rd data3486 (w64 (a_3431 + i3491))).often_), .slice A3503 ((rd data3486 (w64 (a_3431 + i3491))).symbols_).length c3504]⟩), some (slp A3425 (Int.toNat (w64 (a_3431 + i3491)) * 2)), some undef, some (slp A3425 (Int.toNat (w64 (b_3432 + i3491)) * 2)), none]) ⟨rfl, rfl, rfl, rfl, rfl, rfl, rfl, rfl, rfl, rfl, rfl, rfl, rfl, rfl, rfl, rfl, rfl, rfl, rfl, rfl, rfl, trivial⟩)).stepN (i := 21) (nth_get rfl) rfl
      clear hm hav
      replace hcl := hcl2
      refine phase' (vals := [some (.slice A3425 rw3485.length c3426), some (.int .i64 a_3431), some (.int .i64 i3491), some (.int .i64 (w64 (a_3431 + i3491))), some (.slice A3425 rw3485.length c3426), some (.int .i64 b_3432), some (.int .i64 i3491), some (.int .i64 (w64 (b_3432 + i3491))), some (.slice A3425 rw3485.length c3426), some (.int .i64 b_3432), some (.int .i64 i3491), some (.int .i64 (w64 (b_3432 + i3491))), some (slp A3425 (Int.toNat (w64 (b_3432 + i3491)) * 2)), some (.agg ⟨[.int .i64 ((rd data3486 (w64 (b_3432 + i3491))).often_), .slice A3496 ((rd data3486 (w64 (b_3432 + i3491))).symbols_).length c3497]⟩), some (.slice A3425 rw3485.length c3426), some (.int .i64 a_3431), some (.int .i64 i3491), some (.int .i64 (w64 (a_3431 + i3491))), some (slp A3425 (Int.toNat (w64 (a_3431 + i3491)) * 2)), some (.agg ⟨[.int .i64 ((rd data3486 (w64 (a_3431 + i3491))).often_), .slice A3503 ((rd data3486 (w64 (a_3431 + i3491))).symbols_).length c3504]⟩), some (slp A3425 (Int.toNat (w64 (a_3431 + i3491)) * 2)), some undef, some (slp A3425 (Int.toNat (w64 (b_3432 + i3491)) * 2)), none]) 23 [21, 0, 1, 2, 3, 8, 9, 10, 11, 12, 13, 19, 20, 18, 14, 17, 15, 16] [4, 5, 6, 7, 22] rfl rfl rfl rfl (by exact ⟨nR rfl rfl rfl rfl rfl (by exact ovE (mv rfl) rfl), nR rfl rfl rfl rfl rfl (by exact ovE (mv rfl) rfl), nR rfl rfl rfl rfl rfl (by exact ovE (mv rfl) rfl), nR rfl rfl rfl rfl rfl (by exact ovE (bin rfl rfl rfl) rfl), nR rfl rfl rfl rfl rfl (by exact ovE (ixV (lenx hz3517 rfl) rfl Try.runUnderlying68 Try.sizeOf70 (hV3513.rd (i := 1) rfl) Row.len rfl (hr3516.inb hk3520)) rfl), trivial⟩) (fun D l a w ho hcl hav hpre hm hE hk hA hst => ?_) ho hcl hav2 hmust (hav2.notin rfl) hA hst
      have hS := (Ss.mk hE hst).env2 (e' := [(35, .agg ⟨[.int .i64 ((rd data3486 (w64 (a_3431 + i3491))).often_), .slice A3503 ((rd data3486 (w64 (a_3431 + i3491))).symbols_).length c3504]⟩), (37, slp A3425 (Int.toNat (w64 (b_3432 + i3491)) * 2))]) ⟨rfl, rfl, trivial⟩
      refine op_of_nth rfl ?_
      refine stVR 1 (⟨[.int .i64 ((rd data3486 (w64 (a_3431 + i3491))).often_), .slice A3503 ((rd data3486 (w64 (a_3431 + i3491))).symbols_).length c3504], by simp, by simp [Value.oneCell']⟩ : Row 2) hS rfl rfl hV3513 rfl Try.sizeOf70 rfl (hr3516.inb hk3520) fun rw3527 w f3525 hz hV3526 hS => ?_
      obtain ⟨zs3528, hzm⟩ : ∃ z, z = zs3515.set (Int.toNat (w64 (b_3432 + i3491))) (T_huff_packet.mk ((rd data3486 (w64 (a_3431 + i3491))).often_) ((rd data3486 (w64 (a_3431 + i3491))).symbols_)) := ⟨_, rfl⟩
      replace hM := lt_to hzm hM
      have hr3529 := RelL.set (x := (T_huff_packet.mk ((rd data3486 (w64 (a_3431 + i3491))).often_) ((rd data3486 (w64 (a_3431 + i3491))).symbols_))) (r := (⟨[.int .i64 ((rd data3486 (w64 (a_3431 + i3491))).often_), .slice A3503 ((rd data3486 (w64 (a_3431 + i3491))).symbols_).length c3504], by simp, by simp [Value.oneCell']⟩ : Row 2)) (Int.toNat (w64 (b_3432 + i3491))) hr3516 (show R_huff_packet p3424 _ _ from ⟨A3503, c3504, rfl, hp3505, hc3506⟩)
      have hz3530 : rw3527.length = rw3514.length := by rw [hz]; exact List.length_set ..
      rw [← hz, ← hzm] at hr3529; clear hz hzm
      have hz3531 := Eq.trans hz3530 hz3518
      refine wpList_nil (then_n ?_)
      have hcl2 := hcl.cons (k := 23) (nth_get rfl) hpre
      have hmust := must_cons (k := 23) hm (chain (k := 23) hcl (nth_get rfl) hpre [(0, 23), (1, 23), (2, 23), (3, 23), (4, 23), (5, 23), (6, 23), (7, 23), (8, 23), (9, 23), (10, 23), (11, 23), (12, 23), (13, 23), (14, 23), (15, 23), (16, 23), (17, 23), (18, 23), (19, 23), (20, 23), (21, 23), (22, 23)] [] rfl (fun _ h => absurd h List.not_mem_nil))
      replace hst := hS.st
      have hav2 := hav.cons (vals' := [some (.slice A3425 rw3485.length c3426), some (.int .i64 a_3431), some (.int .i64 i3491), some (.int .i64 (w64 (a_3431 + i3491))), some (.slice A3425 rw3485.length c3426), some (.int .i64 b_3432), some (.int .i64 i3491), some (.int .i64 (w64 (b_3432 + i3491))), some (.slice A3425 rw3485.length c3426), some (.int .i64 b_3432), some (.int .i64 i3491), some (.int .i64 (w64 (b_3432 + i3491))), some (slp A3425 (Int.toNat (w64 (b_3432 + i3491)) * 2)), some (.agg ⟨[.int .i64 ((rd data3486 (w64 (b_3432 + i3491))).often_), .slice A3496 ((rd data3486 (w64 (b_3432 + i3491))).symbols_).length c3497]⟩), some (.slice A3425 rw3485.length c3426), some (.int .i64 a_3431), some (.int .i64 i3491), some (.int .i64 (w64 (a_3431 + i3491))), some (slp A3425 (Int.toNat (w64 (a_3431 + i3491)) * 2)), some (.agg ⟨[.int .i64 ((rd data3486 (w64 (a_3431 + i3491))).often_), .slice A3503 ((rd data3486 (w64 (a_3431 + i3491))).symbols_).length c3504]⟩), some (slp A3425 (Int.toNat (w64 (a_3431 + i3491)) * 2)), some undef, some (slp A3425 (Int.toNat (w64 (b_3432 + i3491)) * 2)), some undef]) (k := 23) ⟨rfl, rfl, rfl, rfl, rfl, rfl, rfl, rfl, rfl, rfl, rfl, rfl, rfl, rfl, rfl, rfl, rfl, rfl, rfl, rfl, rfl, rfl, rfl, trivial⟩ rfl
      replace hA := (hA.next hav (subV.get (l' := [some (.slice A3425 rw3485.length c3426), some (.int .i64 a_3431), some (.int .i64 i3491), some (.int .i64 (w64 (a_3431 + i3491))), some (.slice A3425 rw3485.length c3426), some (.int .i64 b_3432), some (.int .i64 i3491), some (.int .i64 (w64 (b_3432 + i3491))), some (.slice A3425 rw3485.length c3426), some (.int .i64 b_3432), some (.int .i64 i3491), some (.int .i64 (w64 (b_3432 + i3491))), some (slp A3425 (Int.toNat (w64 (b_3432 + i3491)) * 2)), some (.agg ⟨[.int .i64 ((rd data3486 (w64 (b_3432 + i3491))).often_), .slice A3496 ((rd data3486 (w64 (b_3432 + i3491))).symbols_).length c3497]⟩), some (.slice A3425 rw3485.length c3426), some (.int .i64 a_3431), some (.int .i64 i3491), some (.int .i64 (w64 (a_3431 + i3491))), some (slp A3425 (Int.toNat (w64 (a_3431 + i3491)) * 2)), some (.agg ⟨[.int .i64 ((rd data3486 (w64 (a_3431 + i3491))).often_), .slice A3503 ((rd data3486 (w64 (a_3431 + i3491))).symbols_).length c3504]⟩), some (slp A3425 (Int.toNat (w64 (a_3431 + i3491)) * 2)), some undef, some (slp A3425 (Int.toNat (w64 (b_3432 + i3491)) * 2)), some undef]) ⟨rfl, rfl, rfl, rfl, rfl, rfl, rfl, rfl, rfl, rfl, rfl, rfl, rfl, rfl, rfl, rfl, rfl, rfl, rfl, rfl, rfl, rfl, rfl, trivial⟩)).stepN (i := 23) (nth_get rfl) rfl
      clear hm hav
      replace hcl := hcl2
      refine phaseE (vals := [some (.slice A3425 rw3485.length c3426), some (.int .i64 a_3431), some (.int .i64 i3491), some (.int .i64 (w64 (a_3431 + i3491))), some (.slice A3425 rw3485.length c3426), some (.int .i64 b_3432), some (.int .i64 i3491), some (.int .i64 (w64 (b_3432 + i3491))), some (.slice A3425 rw3485.length c3426), some (.int .i64 b_3432), some (.int .i64 i3491), some (.int .i64 (w64 (b_3432 + i3491))), some (slp A3425 (Int.toNat (w64 (b_3432 + i3491)) * 2)), some (.agg ⟨[.int .i64 ((rd data3486 (w64 (b_3432 + i3491))).often_), .slice A3496 ((rd data3486 (w64 (b_3432 + i3491))).symbols_).length c3497]⟩), some (.slice A3425 rw3485.length c3426), some (.int .i64 a_3431), some (.int .i64 i3491), some (.int .i64 (w64 (a_3431 + i3491))), some (slp A3425 (Int.toNat (w64 (a_3431 + i3491)) * 2)), some (.agg ⟨[.int .i64 ((rd data3486 (w64 (a_3431 + i3491))).often_), .slice A3503 ((rd data3486 (w64 (a_3431 + i3491))).symbols_).length c3504]⟩), some (slp A3425 (Int.toNat (w64 (a_3431 + i3491)) * 2)), some undef, some (slp A3425 (Int.toNat (w64 (b_3432 + i3491)) * 2)), some undef]) [23, 0, 1, 2, 3, 4, 5, 6, 7, 8, 9, 10, 11, 12, 13, 14, 15, 16, 17, 18, 19, 20, 21, 22, 21, 0, 1, 2, 3, 8, 9, 10, 11, 12, 13, 19, 20, 18, 14, 17, 15, 16] [] rfl rfl rfl trivial (fun a w hS => ?_) ho hcl hmust hA hst
      replace hS := hS.env2 (e' := [(0, .slice A3425 rw3527.length c3426), (1, .int .i64 a_3431), (2, .int .i64 b_3432), (3, .int .i64 n_3433), (10, .int .i64 i3491)]) ⟨(relk (u := .slice A3425 rw3485.length c3426) rfl (by rw [hz3530, hz3517])), rfl, rfl, rfl, rfl, trivial⟩
      refine blk_n (then_n ?_)
      refine wp_region_list ?_
      refine st1 hS (mv rfl) rfl fun a w hS => ?_
      refine st1 hS (bin rfl rfl rfl) rfl fun a w hS => ?_
      refine st1x (v := Value.int .i64) hS (asg rfl) rfl fun i3532 a w hz hS => ?_
      have hM := lt_to hz hM; clear hz
      refine wpList_nil ?_
      refine then_n ?_
      exact hJ3533 _ _ ⟨rw3527, zs3528, f3525, i3532, hS.to [0, 1] (by kernel_rfl) ⟨rfl, rfl, rfl, rfl, rfl, trivial⟩, hV3526, hr3529, hz3531, hM⟩
    · refine wp_exit ?_
      refine then_ex (then_ex (blk_same ?_))
      exact s_end (rs := []) hS rfl rfl (hret rw3485 data3486 f3487 w hM hV3488 hr3489 hz3490 (hS.st.pick [0, 1] (by kernel_rfl)))
end Go.TryS
