/- Printed by a program of mine: each Go function answers what its model answers; conditions: what each theorem asks of memory. -/
import Derived.Test.YtfjejpdilghhpaaDoorP1InflateReads
set_option linter.unusedVariables false
set_option linter.unusedSimpArgs false
namespace Go.TrydS
open Go Go.Sl Go.Mo Go.Proofs
theorem inflate_Inflate_c {H : Imm} {F : List Frag} {w : World} {R : Ending → World → Prop} {kr : ((List UInt8) × Int × Int) → Prop} {kp : Value → Prop} (hG : Gl H) (K : Nat) (s4 : List UInt8) (limit5 : Int)
    (hS : St w H [] F) (hm : (inflate_Inflate.m K s4 limit5).wp kr kp)
    (hret : ∀ (x1482 : List UInt8) (x1483 : Int) (x1484 : Int) (w : World), kr (x1482, x1483, x1484) → St w H [] F → R (.returned (.tuple ⟨[str x1482, .int .i64 x1483, .int .i64 x1484]⟩)) w) :
    Calls Tryd.prog 10 ⟨[str s4, .int .i64 limit5]⟩ w R := by
  refine enterD Tryd.func10 rfl Tryd.ntmps10 rfl hS fun a w hS => ?_
  have hM := hm; clear hm
  rw [inflate_Inflate.m] at hM
  refine wp_seq ?_
  refine wp_region_list ?_
  refine alc ([str ([] : List UInt8)]) hS Tryd.zeroValue9 rfl rfl fun w b6 f7 hB8 hS => ?_
  refine alc ([.int .i64 (0 : Int)]) hS Tryd.zeroValue3 rfl rfl fun w b9 f10 hB11 hS => ?_
  refine alc ([.int .i64 (0 : Int)]) hS Tryd.zeroValue23 rfl rfl fun w b12 f13 hB14 hS => ?_
  refine wpList_nil ?_
  refine then_n ?_
  refine wp_seq ?_
  refine wp_seq ?_
  refine wp_region_list ?_
  refine st1 hS (mv rfl) rfl fun a w hS => ?_
  refine st1 hS (bin rfl rfl rfl) rfl fun a w hS => ?_
  refine st1 hS (mv rfl) rfl fun a w hS => ?_
  refine g_op 2 false 10 (b := (decide (limit5 < (0 : Int)))) (r := (decide (limit5 > (1073741824 : Int)))) hS rfl rfl rfl rfl rfl rfl rfl (fun hb a w hS K hK => ?_) rfl fun a w hS => ?_
  · refine st1g hS rfl rfl rfl hb (mv rfl) rfl fun a w hS => ?_
    refine st1g hS rfl rfl rfl hb (bin rfl rfl rfl) rfl fun a w hS => ?_
    exact wpList_nil (hK _ _ (hS.up 2 rfl rfl))
  refine wpList_nil ?_
  refine then_n ?_
  refine s_cond hS rfl hM (fun hb15 hM => ?_) (fun hb15 hM => ?_)
  · refine wp_seq ?_
    refine wp_region_list ?_
    refine sto 2 ([str ([] : List UInt8)]) hS rfl rfl hB8 rfl rfl rfl rfl Tryd.sizeOf9 fun w f16 hB17 hS => ?_
    refine sto 1 ([.int .i64 (0 : Int)]) hS rfl rfl hB11 rfl rfl rfl rfl Tryd.sizeOf3 fun w f18 hB19 hS => ?_
    refine sto 0 ([.int .i64 (1 : Int)]) hS rfl rfl hB14 rfl rfl rfl rfl Tryd.sizeOf23 fun w f20 hB21 hS => ?_
    refine wpList_nil ?_
    refine then_n ?_
    refine wp_ret ?_
    refine then_ret ?_
    exact s_retD0 hS.ev (leavesRet (vs := [str ([] : List UInt8), .int .i64 (0 : Int), .int .i64 (1 : Int)]) hS.ev hS.st rfl (by exact ⟨rvC 2 rfl hB17 rfl rfl Tryd.isAgg9, rvC 1 rfl hB19 rfl rfl Tryd.isAgg3, rvC 0 rfl hB21 rfl rfl Tryd.isAgg23, trivial⟩) (hret ([] : List UInt8) (0 : Int) (1 : Int) w hM (hS.st.pick [] (by kernel_rfl))))
  · refine wp_skip ?_
    refine then_n ?_
    refine wp_seq ?_
    refine wp_region_list ?_
    refine st1 hS (mkF rfl rfl) rfl fun a w hS => ?_
    refine s_defer hS rfl fun a w hS => ?_
    obtain ⟨kpd23, hkd24, hM⟩ := wp_catch hM
    have hpd22 : ∀ v w a, kpd23 v → Ev 35 [⟨.fn (.func 16) ⟨[ptr b6 0, ptr b9 0, ptr b12 0]⟩, ⟨[]⟩⟩] [(4, ptr b6 0), (5, ptr b9 0), (6, ptr b12 0)] a → St w H [f7, f10, f13] F → bodyPostD Tryd.prog Tryd.f10 R (.panic [⟨v, false, false⟩]) a w := by
      intro v w a hk hE28 hst
      have hM := hkd24 v hk
      rw [inflate_Inflate.h1] at hM
      obtain ⟨e25, he26, hM⟩ := wp_unw hM
      cases asE_eq he26
      refine s_panD hE28 hst Tryd.call16 Tryd.func16 rfl Tryd.ntmps16 rfl rfl rfl fun a w hS => ?_
      refine wp_seq ?_
      refine wp_region_list ?_
      refine st1 hS (mv rfl) rfl fun a w hS => ?_
      refine st1 hS (ifI .neq rfl rfl Tryd.runUnderlying20 rfl) rfl fun a w hS => ?_
      refine wpList_nil ?_
      refine then_n ?_
      refine s_condT hS rfl ?_
      refine draw_begin (vals := [some (.iface 39 (.agg ⟨[.int .i64 e25]⟩)), some (.agg ⟨[.int .i64 e25]⟩), some (.int .i64 e25), none, none, none]) hS mixed rfl ?_
      intro l w ho hcl hA hst
      refine phase' (vals := [some (.iface 39 (.agg ⟨[.int .i64 e25]⟩)), some (.agg ⟨[.int .i64 e25]⟩), some (.int .i64 e25), none, none, none]) 3 [] [0, 1, 2] rfl rfl rfl rfl (by exact ⟨nR rfl rfl rfl rfl rfl (by exact ovE (mv rfl) rfl), nR rfl rfl rfl rfl rfl (by exact ovE (tas rfl Tryd.runUnderlying39 rfl) rfl), nR rfl rfl rfl rfl rfl (by exact ovE (fld rfl Tryd.runUnderlying39 rfl Tryd.isAgg23 rfl) rfl), trivial⟩) (fun D l a w ho hcl hav hpre hm hE hk hA hst => ?_) ho hcl (fun j hj => (List.not_mem_nil hj).elim) (fun m hm => (List.not_mem_nil hm).elim) List.not_mem_nil hA hst
      have hS := (Ss.mk hE hst).env2 (e' := [(0, ptr b6 0)]) ⟨rfl, trivial⟩
      refine op_of_nth rfl ?_
      refine sto 0 ([str ([] : List UInt8)]) hS rfl rfl hB8 rfl rfl rfl rfl Tryd.sizeOf9 fun w f29 hB30 hS => ?_
      refine wpList_nil (then_n ?_)
      have hcl2 := hcl.cons (k := 3) (nth_get rfl) hpre
      have hmust := must_cons (k := 3) hm (chain (k := 3) hcl (nth_get rfl) hpre [] [] rfl (fun _ h => absurd h List.not_mem_nil))
      replace hst := hS.st
      have hav2 := hav.cons (vals' := [some (.iface 39 (.agg ⟨[.int .i64 e25]⟩)), some (.agg ⟨[.int .i64 e25]⟩), some (.int .i64 e25), some undef, none, none]) (k := 3) ⟨rfl, rfl, rfl, trivial⟩ rfl
      replace hA := (hA.next hav (subV.get (l' := [some (.iface 39 (.agg ⟨[.int .i64 e25]⟩)), some (.agg ⟨[.int .i64 e25]⟩), some (.int .i64 e25), some undef, none, none]) ⟨rfl, rfl, rfl, trivial⟩)).stepN (i := 3) (nth_get rfl) rfl
      clear hm hav
      replace hcl := hcl2
      refine phase' (vals := [some (.iface 39 (.agg ⟨[.int .i64 e25]⟩)), some (.agg ⟨[.int .i64 e25]⟩), some (.int .i64 e25), some undef, none, none]) 4 [3] [0, 1, 2] rfl rfl rfl rfl (by exact ⟨nR rfl rfl rfl rfl rfl (by exact ovE (mv rfl) rfl), nR rfl rfl rfl rfl rfl (by exact ovE (tas rfl Tryd.runUnderlying39 rfl) rfl), nR rfl rfl rfl rfl rfl (by exact ovE (fld rfl Tryd.runUnderlying39 rfl Tryd.isAgg23 rfl) rfl), trivial⟩) (fun D l a w ho hcl hav hpre hm hE hk hA hst => ?_) ho hcl hav2 hmust (hav2.notin rfl) hA hst
      have hS := (Ss.mk hE hst).env2 (e' := [(1, ptr b9 0)]) ⟨rfl, trivial⟩
      refine op_of_nth rfl ?_
      refine sto 1 ([.int .i64 (0 : Int)]) hS rfl rfl hB11 rfl rfl rfl rfl Tryd.sizeOf3 fun w f31 hB32 hS => ?_
      refine wpList_nil (then_n ?_)
      have hcl2 := hcl.cons (k := 4) (nth_get rfl) hpre
      have hmust := must_cons (k := 4) hm (chain (k := 4) hcl (nth_get rfl) hpre [(3, 4)] [] rfl (fun _ h => absurd h List.not_mem_nil))
      replace hst := hS.st
      have hav2 := hav.cons (vals' := [some (.iface 39 (.agg ⟨[.int .i64 e25]⟩)), some (.agg ⟨[.int .i64 e25]⟩), some (.int .i64 e25), some undef, some undef, none]) (k := 4) ⟨rfl, rfl, rfl, rfl, trivial⟩ rfl
      replace hA := (hA.next hav (subV.get (l' := [some (.iface 39 (.agg ⟨[.int .i64 e25]⟩)), some (.agg ⟨[.int .i64 e25]⟩), some (.int .i64 e25), some undef, some undef, none]) ⟨rfl, rfl, rfl, rfl, trivial⟩)).stepN (i := 4) (nth_get rfl) rfl
      clear hm hav
      replace hcl := hcl2
      refine phase' (vals := [some (.iface 39 (.agg ⟨[.int .i64 e25]⟩)), some (.agg ⟨[.int .i64 e25]⟩), some (.int .i64 e25), some undef, some undef, none]) 5 [4, 3, 3] [0, 1, 2] rfl rfl rfl rfl (by exact ⟨nR rfl rfl rfl rfl rfl (by exact ovE (mv rfl) rfl), nR rfl rfl rfl rfl rfl (by exact ovE (tas rfl Tryd.runUnderlying39 rfl) rfl), nR rfl rfl rfl rfl rfl (by exact ovE (fld rfl Tryd.runUnderlying39 rfl Tryd.isAgg23 rfl) rfl), trivial⟩) (fun D l a w ho hcl hav hpre hm hE hk hA hst => ?_) ho hcl hav2 hmust (hav2.notin rfl) hA hst
      have hS := (Ss.mk hE hst).env2 (e' := [(2, ptr b12 0), (9, .int .i64 e25)]) ⟨rfl, rfl, trivial⟩
      refine op_of_nth rfl ?_
      refine sto 2 ([.int .i64 e25]) hS rfl rfl hB14 rfl rfl rfl rfl Tryd.sizeOf23 fun w f33 hB34 hS => ?_
      refine wpList_nil (then_n ?_)
      have hcl2 := hcl.cons (k := 5) (nth_get rfl) hpre
      have hmust := must_cons (k := 5) hm (chain (k := 5) hcl (nth_get rfl) hpre [(0, 5), (1, 5), (2, 5), (3, 5), (4, 5)] [] rfl (fun _ h => absurd h List.not_mem_nil))
      replace hst := hS.st
      have hav2 := hav.cons (vals' := [some (.iface 39 (.agg ⟨[.int .i64 e25]⟩)), some (.agg ⟨[.int .i64 e25]⟩), some (.int .i64 e25), some undef, some undef, some undef]) (k := 5) ⟨rfl, rfl, rfl, rfl, rfl, trivial⟩ rfl
      replace hA := (hA.next hav (subV.get (l' := [some (.iface 39 (.agg ⟨[.int .i64 e25]⟩)), some (.agg ⟨[.int .i64 e25]⟩), some (.int .i64 e25), some undef, some undef, some undef]) ⟨rfl, rfl, rfl, rfl, rfl, trivial⟩)).stepN (i := 5) (nth_get rfl) rfl
      clear hm hav
      replace hcl := hcl2
      refine phaseE (vals := [some (.iface 39 (.agg ⟨[.int .i64 e25]⟩)), some (.agg ⟨[.int .i64 e25]⟩), some (.int .i64 e25), some undef, some undef, some undef]) [5, 0, 1, 2, 3, 4, 4, 3, 3] [] rfl rfl rfl trivial (fun a w hS => ?_) ho hcl hmust hA hst
      replace hS := hS.env2 (e' := []) trivial
      exact d_end hS rfl (leavesRet (vs := [str ([] : List UInt8), .int .i64 (0 : Int), .int .i64 e25]) hE28 hS.st rfl (by exact ⟨rvC 0 rfl hB30 rfl rfl Tryd.isAgg9, rvC 1 rfl hB32 rfl rfl Tryd.isAgg3, rvC 2 rfl hB34 rfl rfl Tryd.isAgg23, trivial⟩) (hret ([] : List UInt8) (0 : Int) e25 w hM (hS.st.pick [] (by kernel_rfl))))
    rw [inflate_Inflate.j2] at hM
    refine wpList_nil ?_
    refine then_n ?_
    refine wp_seq ?_
    refine wp_region_list ?_
    refine st1 hS (mv rfl) rfl fun a w hS => ?_
    refine s_call hS rfl Tryd.call17 (bits_New_c hG K s4 (hS.st.part 0 [0, 1, 2] (by kernel_rfl)) (wp_bind hM) (fun b42 f43 w hM h44 hst => s_back hS.ev hst.appF rfl fun hS => ?_))
    replace hS : Ss _ _ _ H [f43, f13, f10, f7] F _ _ := hS
    refine st1 hS (mv rfl) rfl fun a w hS => ?_
    refine st1 hS (bld ([ptr b42 0, .slice none 0 0, .int .i64 limit5]) [(0, 1), (1, 1), (2, 1)] Tryd.zeroValue44 Tryd.runUnderlying44 (by intro w; simp [Tryd.sizeOf3, Tryd.sizeOf30, Tryd.sizeOf41]) rfl rfl) rfl fun a w hS => ?_
    refine bx ([ptr b42 0, .slice none 0 0, .int .i64 limit5]) hS rfl rfl rfl fun w b45 f46 hB47 hS => ?_
    obtain ⟨f48, hV49, hS⟩ := hS.nilV 5 (ci .u8) 1
    refine st1 hS (asg rfl) rfl fun a w hS => ?_
    refine wpList_nil ?_
    refine then_n ?_
    refine seq_joinJ (fun a w => ∃ (at_1460 : Int) (f1461 : Frag) (A1463 : Option Addr) (c1464 : Nat) (out1465 : (List Int)) (f1466 : Frag) (f1468 : Frag), Ss 35 [⟨.fn (.func 16) ⟨[ptr b6 0, ptr b9 0, ptr b12 0]⟩, ⟨[]⟩⟩] [(4, ptr b6 0), (5, ptr b9 0), (6, ptr b12 0), (7, ptr b45 0)] H [f7, f10, f13, f1468, f1461, f1466] F a w ∧ (Blk f1461 b42 ([.int .i64 at_1460, str s4]) 57) ∧ (Vec 5 (ci .u8) 1 A1463 out1465 c1464 f1466) ∧ (Blk f1468 b45 ([ptr b42 0, .slice A1463 out1465.length c1464, .int .i64 limit5]) 44) ∧ (inflate_Inflate.j4 K s4 at_1460 out1465).wp kr kpd23) (fun J1470 hJ1470 => ?_) ?_
    · refine wp_block ?_
      refine s_loopJ (fun k1446 a w => ∃ (at_1436 : Int) (f1437 : Frag) (A1439 : Option Addr) (c1440 : Nat) (out1441 : (List Int)) (f1442 : Frag) (f1444 : Frag), Ss 35 [⟨.fn (.func 16) ⟨[ptr b6 0, ptr b9 0, ptr b12 0]⟩, ⟨[]⟩⟩] [(4, ptr b6 0), (5, ptr b9 0), (6, ptr b12 0), (7, ptr b45 0)] H [f7, f10, f13, f1444, f1437, f1442] F a w ∧ (Blk f1437 b42 ([.int .i64 at_1436, str s4]) 57) ∧ (Vec 5 (ci .u8) 1 A1439 out1441 c1440 f1442) ∧ (Blk f1444 b45 ([ptr b42 0, .slice A1439 out1441.length c1440, .int .i64 limit5]) 44) ∧ (inflate_Inflate.l3 K s4 limit5 k1446 at_1436 out1441).wp kr kpd23) K ?_ ?_ ?_
      · exact ⟨(0 : Int), f43, none, 0, ([] : List Int), f48, f46, hS.to [5, 4, 3, 1, 2, 0] (by kernel_rfl) ⟨rfl, rfl, rfl, rfl, trivial⟩, h44, hV49, hB47, hM⟩
      · intro a w hI; obtain ⟨_, _, _, _, _, _, _, _, _, _, _, hM⟩ := hI; exact hM
      · intro k1446 a w hI J1459 hJ1459
        obtain ⟨at_1436, f1437, A1439, c1440, out1441, f1442, f1444, hS, hB1438, hV1443, hB1445, hM⟩ := hI
        rw [inflate_Inflate.l3] at hM
        refine wp_seq ?_
        refine wp_seq ?_
        refine wp_region_list ?_
        refine st1 hS (mv rfl) rfl fun a w hS => ?_
        refine s_call hS rfl Tryd.call18 (inflate_reader_block_c hG K (T_inflate_reader.mk (T_bits_Reader.mk (T_bits_place.mk at_1436) s4) out1441 limit5) b45 f1444 b42 f1437 A1439 c1440 f1442 hB1445 hB1438 hV1443 (hS.st.part 3 [3, 4, 5, 0, 1, 2] (by kernel_rfl)) (wp_bind hM) (fun x1447 at_1448 f1449 A1450 c1451 out1452 f1453 f1454 w hM h1455 h1456 h1457 hst => s_back hS.ev hst.appF rfl fun hS => ?_) (fun v w hk hst => s_pan (then_pan (then_pan (then_pan (blk_pan (then_pan (hpd22 _ _ _ hk (hS.env2 (e' := [(4, ptr b6 0), (5, ptr b9 0), (6, ptr b12 0)]) ⟨rfl, rfl, rfl, trivial⟩).ev (hst.appF.pick [0, 1, 2] (by kernel_rfl))))))))))
        replace hS : Ss _ _ _ H [f1454, f1449, f1453, f7, f10, f13] F _ _ := hS
        refine st1 hS (un rfl rfl) rfl fun a w hS => ?_
        refine wpList_nil ?_
        refine then_n ?_
        refine s_cond hS rfl hM (fun hb1458 hM => ?_) (fun hb1458 hM => ?_)
        · refine wp_skip ?_
          refine then_n ?_
          refine wp_block ?_
          refine wp_skip ?_
          refine blk_n (then_n ?_)
          exact hJ1459 _ _ ⟨at_1448, f1449, A1450, c1451, out1452, f1453, f1454, hS.to [3, 4, 5, 0, 1, 2] (by kernel_rfl) ⟨rfl, rfl, rfl, rfl, trivial⟩, h1455, h1456, h1457, hM⟩
        · refine wp_exit ?_
          refine then_ex (then_ex (blk_same (then_n ?_)))
          exact hJ1470 _ _ ⟨at_1448, f1449, A1450, c1451, out1452, f1453, f1454, hS.to [3, 4, 5, 0, 1, 2] (by kernel_rfl) ⟨rfl, rfl, rfl, rfl, trivial⟩, h1455, h1456, h1457, hM⟩
    · intro a w hI
      obtain ⟨at_1460, f1461, A1463, c1464, out1465, f1466, f1468, hS, hB1462, hV1467, hB1469, hM⟩ := hI
      rw [inflate_Inflate.j4] at hM
      refine wp_seq ?_
      refine draw_begin (vals := [some (ptr b45 0), some (ptr b45 0), some (ptr b45 1), some (.slice A1463 out1465.length c1464), some (str (out1465.map tob)), some (ptr b45 0), some (ptr b45 0), some (ptr b45 0), some (ptr b42 0), none, none, none, none, none, none]) hS mixed rfl ?_
      intro l w ho hcl hA hst
      refine phase' (vals := [some (ptr b45 0), some (ptr b45 0), some (ptr b45 1), some (.slice A1463 out1465.length c1464), some (str (out1465.map tob)), some (ptr b45 0), some (ptr b45 0), some (ptr b45 0), some (ptr b42 0), none, none, none, none, none, none]) 9 [] [0, 1, 2, 3, 4, 5, 6, 7, 8] rfl rfl rfl rfl (by exact ⟨nR rfl rfl rfl rfl rfl (by exact ovE (mv rfl) rfl), nR rfl rfl rfl rfl rfl (by exact ovE (nck rfl) rfl), nR rfl rfl rfl rfl rfl (by exact ovE (fad rfl Tryd.runUnderlying44 rfl Tryd.sizeOf30 rfl) rfl), nR rfl rfl rfl rfl rfl (by exact ovE (ldb 3 rfl hB1469 rfl rfl Tryd.isAgg30) rfl), nR rfl rfl rfl rfl rfl (by exact ovE (cbs rfl Tryd.runUnderlying30 Tryd.runUnderlying5 Tryd.runUnderlying9 (hV1467.rd (i := 5) rfl)) rfl), nR rfl rfl rfl rfl rfl (by exact ovE (mv rfl) rfl), nR rfl rfl rfl rfl rfl (by exact ovE (nck rfl) rfl), nR rfl rfl rfl rfl rfl (by exact ovE (fad rfl Tryd.runUnderlying44 rfl Tryd.sizeOf41 rfl) rfl), nR rfl rfl rfl rfl rfl (by exact ovE (ldb 3 rfl hB1469 rfl rfl Tryd.isAgg41) rfl), trivial⟩) (fun D l a w ho hcl hav hpre hm hE hk hA hst => ?_) ho hcl (fun j hj => (List.not_mem_nil hj).elim) (fun m hm => (List.not_mem_nil hm).elim) List.not_mem_nil hA hst
      have hS := (Ss.mk hE hst).env2 (e' := [(31, ptr b42 0)]) ⟨rfl, trivial⟩
      refine op_of_nth rfl ?_
      refine s_call hS rfl Tryd.call19 (bits_Reader_At_c hG K (T_bits_Reader.mk (T_bits_place.mk at_1460) s4) b42 f1461 hB1462 (hS.st.part 1 [4, 0, 1, 2, 3, 5] (by kernel_rfl)) (wp_bind hM) (fun  w hM  hst => s_back hS.ev hst.appF rfl fun hS => ?_))
      replace hS : Ss _ _ _ H [f1461, f7, f10, f13, f1468, f1466] F _ _ := hS
      refine wpList_nil (then_n ?_)
      have hcl2 := hcl.cons (k := 9) (nth_get rfl) hpre
      have hmust := must_cons (k := 9) hm (chain (k := 9) hcl (nth_get rfl) hpre [(8, 9), (7, 8), (6, 7), (5, 6)] [] rfl (fun _ h => absurd h List.not_mem_nil))
      replace hst := hS.st
      have hav2 := hav.cons (vals' := [some (ptr b45 0), some (ptr b45 0), some (ptr b45 1), some (.slice A1463 out1465.length c1464), some (str (out1465.map tob)), some (ptr b45 0), some (ptr b45 0), some (ptr b45 0), some (ptr b42 0), some (.int .i64 at_1460), some (.int .i64 (w64 (at_1460 + (7 : Int)))), some (.int .i64 (iquo .i64 (w64 (at_1460 + (7 : Int))) (8 : Int))), none, none, none]) (k := 9) ⟨rfl, rfl, rfl, rfl, rfl, rfl, rfl, rfl, rfl, trivial⟩ rfl
      replace hA := (hA.next hav (subV.get (l' := [some (ptr b45 0), some (ptr b45 0), some (ptr b45 1), some (.slice A1463 out1465.length c1464), some (str (out1465.map tob)), some (ptr b45 0), some (ptr b45 0), some (ptr b45 0), some (ptr b42 0), some (.int .i64 at_1460), some (.int .i64 (w64 (at_1460 + (7 : Int)))), some (.int .i64 (iquo .i64 (w64 (at_1460 + (7 : Int))) (8 : Int))), none, none, none]) ⟨rfl, rfl, rfl, rfl, rfl, rfl, rfl, rfl, rfl, trivial⟩)).step rfl (nth_get rfl) hk rfl rfl rfl
      clear hm hav
      replace hcl := hcl2
      refine phase' (vals := [some (ptr b45 0), some (ptr b45 0), some (ptr b45 1), some (.slice A1463 out1465.length c1464), some (str (out1465.map tob)), some (ptr b45 0), some (ptr b45 0), some (ptr b45 0), some (ptr b42 0), some (.int .i64 at_1460), some (.int .i64 (w64 (at_1460 + (7 : Int)))), some (.int .i64 (iquo .i64 (w64 (at_1460 + (7 : Int))) (8 : Int))), none, none, none]) 12 [9, 8, 7, 6, 5] [0, 1, 2, 3, 4, 10, 11] rfl rfl rfl rfl (by exact ⟨nR rfl rfl rfl rfl rfl (by exact ovE (mv rfl) rfl), nR rfl rfl rfl rfl rfl (by exact ovE (nck rfl) rfl), nR rfl rfl rfl rfl rfl (by exact ovE (fad rfl Tryd.runUnderlying44 rfl Tryd.sizeOf30 rfl) rfl), nR rfl rfl rfl rfl rfl (by exact ovE (ldb 4 rfl hB1469 rfl rfl Tryd.isAgg30) rfl), nR rfl rfl rfl rfl rfl (by exact ovE (cbs rfl Tryd.runUnderlying30 Tryd.runUnderlying5 Tryd.runUnderlying9 (hV1467.rd (i := 5) rfl)) rfl), nR rfl rfl rfl rfl rfl (by exact ovE (bin rfl rfl rfl) rfl), nR rfl rfl rfl rfl rfl (by exact ovE (quo rfl rfl rfl) rfl), trivial⟩) (fun D l a w ho hcl hav hpre hm hE hk hA hst => ?_) ho hcl hav2 hmust (hav2.notin rfl) hA hst
      have hS := (Ss.mk hE hst).env2 (e' := [(4, ptr b6 0), (27, str (out1465.map tob))]) ⟨rfl, rfl, trivial⟩
      refine op_of_nth rfl ?_
      refine sto 1 ([str (out1465.map tob)]) hS rfl rfl hB8 rfl rfl rfl rfl Tryd.sizeOf9 fun w f1475 hB1476 hS => ?_
      refine wpList_nil (then_n ?_)
      have hcl2 := hcl.cons (k := 12) (nth_get rfl) hpre
      have hmust := must_cons (k := 12) hm (chain (k := 12) hcl (nth_get rfl) hpre [(0, 12), (1, 12), (2, 12), (3, 12), (4, 12), (9, 12), (8, 9), (7, 8), (6, 7), (5, 6)] [] rfl (fun _ h => absurd h List.not_mem_nil))
      replace hst := hS.st
      have hav2 := hav.cons (vals' := [some (ptr b45 0), some (ptr b45 0), some (ptr b45 1), some (.slice A1463 out1465.length c1464), some (str (out1465.map tob)), some (ptr b45 0), some (ptr b45 0), some (ptr b45 0), some (ptr b42 0), some (.int .i64 at_1460), some (.int .i64 (w64 (at_1460 + (7 : Int)))), some (.int .i64 (iquo .i64 (w64 (at_1460 + (7 : Int))) (8 : Int))), some undef, none, none]) (k := 12) ⟨rfl, rfl, rfl, rfl, rfl, rfl, rfl, rfl, rfl, rfl, rfl, rfl, trivial⟩ rfl
      replace hA := (hA.next hav (subV.get (l' := [some (ptr b45 0), some (ptr b45 0), some (ptr b45 1), some (.slice A1463 out1465.length c1464), some (str (out1465.map tob)), some (ptr b45 0), some (ptr b45 0), some (ptr b45 0), some (ptr b42 0), some (.int .i64 at_1460), some (.int .i64 (w64 (at_1460 + (7 : Int)))), some (.int .i64 (iquo .i64 (w64 (at_1460 + (7 : Int))) (8 : Int))), some undef, none, none]) ⟨rfl, rfl, rfl, rfl, rfl, rfl, rfl, rfl, rfl, rfl, rfl, rfl, trivial⟩)).stepN (i := 12) (nth_get rfl) rfl
      clear hm hav
      replace hcl := hcl2
      refine phase' (vals := [some (ptr b45 0), some (ptr b45 0), some (ptr b45 1), some (.slice A1463 out1465.length c1464), some (str (out1465.map tob)), some (ptr b45 0), some (ptr b45 0), some (ptr b45 0), some (ptr b42 0), some (.int .i64 at_1460), some (.int .i64 (w64 (at_1460 + (7 : Int)))), some (.int .i64 (iquo .i64 (w64 (at_1460 + (7 : Int))) (8 : Int))), some undef, none, none]) 13 [12, 0, 1, 2, 3, 4, 9, 8, 7, 6, 5, 9, 8, 7, 6, 5] [10, 11] rfl rfl rfl rfl (by exact ⟨nR rfl rfl rfl rfl rfl (by exact ovE (bin rfl rfl rfl) rfl), nR rfl rfl rfl rfl rfl (by exact ovE (quo rfl rfl rfl) rfl), trivial⟩) (fun D l a w ho hcl hav hpre hm hE hk hA hst => ?_) ho hcl hav2 hmust (hav2.notin rfl) hA hst
      have hS := (Ss.mk hE hst).env2 (e' := [(5, ptr b9 0), (34, .int .i64 (iquo .i64 (w64 (at_1460 + (7 : Int))) (8 : Int)))]) ⟨rfl, rfl, trivial⟩
      refine op_of_nth rfl ?_
      refine sto 2 ([.int .i64 (iquo .i64 (w64 (at_1460 + (7 : Int))) (8 : Int))]) hS rfl rfl hB11 rfl rfl rfl rfl Tryd.sizeOf3 fun w f1477 hB1478 hS => ?_
      refine wpList_nil (then_n ?_)
      have hcl2 := hcl.cons (k := 13) (nth_get rfl) hpre
      have hmust := must_cons (k := 13) hm (chain (k := 13) hcl (nth_get rfl) hpre [(0, 13), (1, 13), (2, 13), (3, 13), (4, 13), (5, 13), (6, 13), (7, 13), (8, 13), (9, 13), (10, 13), (11, 13), (12, 13)] [] rfl (fun _ h => absurd h List.not_mem_nil))
      replace hst := hS.st
      have hav2 := hav.cons (vals' := [some (ptr b45 0), some (ptr b45 0), some (ptr b45 1), some (.slice A1463 out1465.length c1464), some (str (out1465.map tob)), some (ptr b45 0), some (ptr b45 0), some (ptr b45 0), some (ptr b42 0), some (.int .i64 at_1460), some (.int .i64 (w64 (at_1460 + (7 : Int)))), some (.int .i64 (iquo .i64 (w64 (at_1460 + (7 : Int))) (8 : Int))), some undef, some undef, none]) (k := 13) ⟨rfl, rfl, rfl, rfl, rfl, rfl, rfl, rfl, rfl, rfl, rfl, rfl, rfl, trivial⟩ rfl
      replace hA := (hA.next hav (subV.get (l' := [some (ptr b45 0), some (ptr b45 0), some (ptr b45 1), some (.slice A1463 out1465.length c1464), some (str (out1465.map tob)), some (ptr b45 0), some (ptr b45 0), some (ptr b45 0), some (ptr b42 0), some (.int .i64 at_1460), some (.int .i64 (w64 (at_1460 + (7 : Int)))), some (.int .i64 (iquo .i64 (w64 (at_1460 + (7 : Int))) (8 : Int))), some undef, some undef, none]) ⟨rfl, rfl, rfl, rfl, rfl, rfl, rfl, rfl, rfl, rfl, rfl, rfl, rfl, trivial⟩)).stepN (i := 13) (nth_get rfl) rfl
      clear hm hav
      replace hcl := hcl2
      refine phase' (vals := [some (ptr b45 0), some (ptr b45 0), some (ptr b45 1), some (.slice A1463 out1465.length c1464), some (str (out1465.map tob)), some (ptr b45 0), some (ptr b45 0), some (ptr b45 0), some (ptr b42 0), some (.int .i64 at_1460), some (.int .i64 (w64 (at_1460 + (7 : Int)))), some (.int .i64 (iquo .i64 (w64 (at_1460 + (7 : Int))) (8 : Int))), some undef, some undef, none]) 14 [13, 0, 1, 2, 3, 4, 5, 6, 7, 8, 9, 10, 11, 12, 12, 0, 1, 2, 3, 4, 9, 8, 7, 6, 5, 9, 8, 7, 6, 5] [] rfl rfl rfl rfl trivial (fun D l a w ho hcl hav hpre hm hE hk hA hst => ?_) ho hcl hav2 hmust (hav2.notin rfl) hA hst
      have hS := (Ss.mk hE hst).env2 (e' := [(6, ptr b12 0)]) ⟨rfl, trivial⟩
      refine op_of_nth rfl ?_
      refine sto 3 ([.int .i64 (0 : Int)]) hS rfl rfl hB14 rfl rfl rfl rfl Tryd.sizeOf23 fun w f1479 hB1480 hS => ?_
      refine wpList_nil (then_n ?_)
      have hcl2 := hcl.cons (k := 14) (nth_get rfl) hpre
      have hmust := must_cons (k := 14) hm (chain (k := 14) hcl (nth_get rfl) hpre [(0, 14), (1, 14), (2, 14), (3, 14), (4, 14), (5, 14), (6, 14), (7, 14), (8, 14), (9, 14), (10, 14), (11, 14), (12, 14), (13, 14)] [] rfl (fun _ h => absurd h List.not_mem_nil))
      replace hst := hS.st
      have hav2 := hav.cons (vals' := [some (ptr b45 0), some (ptr b45 0), some (ptr b45 1), some (.slice A1463 out1465.length c1464), some (str (out1465.map tob)), some (ptr b45 0), some (ptr b45 0), some (ptr b45 0), some (ptr b42 0), some (.int .i64 at_1460), some (.int .i64 (w64 (at_1460 + (7 : Int)))), some (.int .i64 (iquo .i64 (w64 (at_1460 + (7 : Int))) (8 : Int))), some undef, some undef, some undef]) (k := 14) ⟨rfl, rfl, rfl, rfl, rfl, rfl, rfl, rfl, rfl, rfl, rfl, rfl, rfl, rfl, trivial⟩ rfl
      replace hA := (hA.next hav (subV.get (l' := [some (ptr b45 0), some (ptr b45 0), some (ptr b45 1), some (.slice A1463 out1465.length c1464), some (str (out1465.map tob)), some (ptr b45 0), some (ptr b45 0), some (ptr b45 0), some (ptr b42 0), some (.int .i64 at_1460), some (.int .i64 (w64 (at_1460 + (7 : Int)))), some (.int .i64 (iquo .i64 (w64 (at_1460 + (7 : Int))) (8 : Int))), some undef, some undef, some undef]) ⟨rfl, rfl, rfl, rfl, rfl, rfl, rfl, rfl, rfl, rfl, rfl, rfl, rfl, rfl, trivial⟩)).stepN (i := 14) (nth_get rfl) rfl
      clear hm hav
      replace hcl := hcl2
      refine phaseE (vals := [some (ptr b45 0), some (ptr b45 0), some (ptr b45 1), some (.slice A1463 out1465.length c1464), some (str (out1465.map tob)), some (ptr b45 0), some (ptr b45 0), some (ptr b45 0), some (ptr b42 0), some (.int .i64 at_1460), some (.int .i64 (w64 (at_1460 + (7 : Int)))), some (.int .i64 (iquo .i64 (w64 (at_1460 + (7 : Int))) (8 : Int))), some undef, some undef, some undef]) [14, 0, 1, 2, 3, 4, 5, 6, 7, 8, 9, 10, 11, 12, 13, 13, 0, 1, 2, 3, 4, 5, 6, 7, 8, 9, 10, 11, 12, 12, 0, 1, 2, 3, 4, 9, 8, 7, 6, 5, 9, 8, 7, 6, 5] [] rfl rfl rfl trivial (fun a w hS => ?_) ho hcl hmust hA hst
      replace hS := hS.env2 (e' := [(4, ptr b6 0), (5, ptr b9 0), (6, ptr b12 0)]) ⟨rfl, rfl, rfl, trivial⟩
      refine then_n ?_
      refine wp_ret ?_
      have hE1481 := hS.ev
      refine s_retD hS Tryd.call16 Tryd.func16 rfl Tryd.ntmps16 rfl rfl rfl fun a w hS => ?_
      refine wp_seq ?_
      refine wp_region_list ?_
      refine st1 hS (mv rfl) rfl fun a w hS => ?_
      refine st1 hS (ifN .neq rfl Tryd.runUnderlying20 rfl) rfl fun a w hS => ?_
      refine wpList_nil ?_
      refine then_n ?_
      refine s_condF hS rfl ?_
      refine wp_skip ?_
      exact d_end hS rfl (leavesRet (vs := [str (out1465.map tob), .int .i64 (iquo .i64 (w64 (at_1460 + (7 : Int))) (8 : Int)), .int .i64 (0 : Int)]) hE1481 hS.st rfl (by exact ⟨rvC 1 rfl hB1476 rfl rfl Tryd.isAgg9, rvC 2 rfl hB1478 rfl rfl Tryd.isAgg3, rvC 3 rfl hB1480 rfl rfl Tryd.isAgg23, trivial⟩) (hret (out1465.map tob) (iquo .i64 (w64 (at_1460 + (7 : Int))) (8 : Int)) (0 : Int) w hM (hS.st.pick [] (by kernel_rfl))))

theorem mortiselaw07_live_c {H : Imm} {F : List Frag} {w : World} {R : Ending → World → Prop} {kr : Bool → Prop} {kp : Value → Prop} (hG : Gl H) (K : Nat)
    (hS : St w H [] F) (hm : (mortiselaw07_live.m K).wp kr kp)
    (hret : ∀ (x1498 : Bool) (w : World), kr x1498 → St w H [] F → R (.returned (.bool x1498)) w) :
    Calls Tryd.prog 9 ⟨[]⟩ w R := by
  refine enter Tryd.func9 rfl Tryd.ntmps9 rfl hS fun a w hS => ?_
  have hM := hm; clear hm
  rw [mortiselaw07_live.m] at hM
  refine wp_seq ?_
  refine wp_region_list ?_
  refine st1 hS (asg rfl) rfl fun a w hS => ?_
  refine wpList_nil ?_
  refine then_n ?_
  refine wp_seq ?_
  refine wp_region_list ?_
  refine s_call hS rfl Tryd.call10 (inflate_Inflate_c hG K ([3, 0] : List UInt8) (10 : Int) (hS.st.part 0 [] (by kernel_rfl)) (wp_bind hM) (fun x1485 x1486 x1487 w hM  hst => s_back hS.ev hst.appF rfl fun hS => ?_))
  replace hS : Ss _ _ _ H [] F _ _ := hS
  refine st1 hS (mv rfl) rfl fun a w hS => ?_
  refine st1 hS (ex rfl rfl) rfl fun a w hS => ?_
  refine st1 hS (ex rfl rfl) rfl fun a w hS => ?_
  refine st1 hS (ex rfl rfl) rfl fun a w hS => ?_
  refine st1 hS (asg rfl) rfl fun a w hS => ?_
  refine st1 hS (asg rfl) rfl fun a w hS => ?_
  refine st1 hS (asg rfl) rfl fun a w hS => ?_
  refine wpList_nil ?_
  refine then_n ?_
  refine wp_seq ?_
  refine wp_region_list ?_
  refine s_call hS rfl Tryd.call10 (inflate_Inflate_c hG K ([1, 1, 0, 254, 255, 97, 122] : List UInt8) (10 : Int) (hS.st.part 0 [] (by kernel_rfl)) (wp_bind hM) (fun x1488 x1489 x1490 w hM  hst => s_back hS.ev hst.appF rfl fun hS => ?_))
  replace hS : Ss _ _ _ H [] F _ _ := hS
  refine st1 hS (mv rfl) rfl fun a w hS => ?_
  refine st1 hS (ex rfl rfl) rfl fun a w hS => ?_
  refine st1 hS (ex rfl rfl) rfl fun a w hS => ?_
  refine st1 hS (ex rfl rfl) rfl fun a w hS => ?_
  refine st1 hS (asg rfl) rfl fun a w hS => ?_
  refine st1 hS (asg rfl) rfl fun a w hS => ?_
  refine st1 hS (asg rfl) rfl fun a w hS => ?_
  refine wpList_nil ?_
  refine then_n ?_
  refine wp_seq ?_
  refine wp_region_list ?_
  refine s_call hS rfl Tryd.call10 (inflate_Inflate_c hG K ([7] : List UInt8) (10 : Int) (hS.st.part 0 [] (by kernel_rfl)) (wp_bind hM) (fun x1491 x1492 x1493 w hM  hst => s_back hS.ev hst.appF rfl fun hS => ?_))
  replace hS : Ss _ _ _ H [] F _ _ := hS
  refine st1 hS (mv rfl) rfl fun a w hS => ?_
  refine st1 hS (ex rfl rfl) rfl fun a w hS => ?_
  refine st1 hS (ex rfl rfl) rfl fun a w hS => ?_
  refine st1 hS (ex rfl rfl) rfl fun a w hS => ?_
  refine st1 hS (asg rfl) rfl fun a w hS => ?_
  refine st1 hS (asg rfl) rfl fun a w hS => ?_
  refine st1 hS (asg rfl) rfl fun a w hS => ?_
  refine wpList_nil ?_
  refine then_n ?_
  refine wp_seq ?_
  refine wp_region_list ?_
  refine s_call hS rfl Tryd.call10 (inflate_Inflate_c hG K ([1, 1, 0, 254, 255, 97] : List UInt8) (0 : Int) (hS.st.part 0 [] (by kernel_rfl)) (wp_bind hM) (fun x1494 x1495 x1496 w hM  hst => s_back hS.ev hst.appF rfl fun hS => ?_))
  replace hS : Ss _ _ _ H [] F _ _ := hS
  refine st1 hS (mv rfl) rfl fun a w hS => ?_
  refine st1 hS (ex rfl rfl) rfl fun a w hS => ?_
  refine st1 hS (ex rfl rfl) rfl fun a w hS => ?_
  refine st1 hS (ex rfl rfl) rfl fun a w hS => ?_
  refine st1 hS (asg rfl) rfl fun a w hS => ?_
  refine st1 hS (asg rfl) rfl fun a w hS => ?_
  refine st1 hS (asg rfl) rfl fun a w hS => ?_
  refine wpList_nil ?_
  refine then_n ?_
  refine wp_seq ?_
  refine wp_region_list ?_
  refine st1 hS (mv rfl) rfl fun a w hS => ?_
  refine st1 hS (bins rfl rfl rfl) rfl fun a w hS => ?_
  refine st1 hS (mv rfl) rfl fun a w hS => ?_
  refine g_op 2 true 35 (b := (x1485 == ([] : List UInt8))) (r := (x1486 == (2 : Int))) hS rfl rfl rfl rfl rfl rfl rfl (fun hb a w hS K hK => ?_) rfl fun a w hS => ?_
  · refine st1g hS rfl rfl rfl hb (mv rfl) rfl fun a w hS => ?_
    refine st1g hS rfl rfl rfl hb (bin rfl rfl rfl) rfl fun a w hS => ?_
    exact wpList_nil (hK _ _ (hS.up 2 rfl rfl))
  refine st1 hS (mv rfl) rfl fun a w hS => ?_
  refine g_op 2 true 39 (b := ((x1485 == ([] : List UInt8)) && (x1486 == (2 : Int)))) (r := (x1487 == (0 : Int))) hS rfl rfl rfl rfl rfl rfl rfl (fun hb a w hS K hK => ?_) rfl fun a w hS => ?_
  · refine st1g hS rfl rfl rfl hb (mv rfl) rfl fun a w hS => ?_
    refine st1g hS rfl rfl rfl hb (bin rfl rfl rfl) rfl fun a w hS => ?_
    exact wpList_nil (hK _ _ (hS.up 2 rfl rfl))
  refine st1 hS (mv rfl) rfl fun a w hS => ?_
  refine g_op 2 true 43 (b := (((x1485 == ([] : List UInt8)) && (x1486 == (2 : Int))) && (x1487 == (0 : Int)))) (r := (x1488 == ([97] : List UInt8))) hS rfl rfl rfl rfl rfl rfl rfl (fun hb a w hS K hK => ?_) rfl fun a w hS => ?_
  · refine st1g hS rfl rfl rfl hb (mv rfl) rfl fun a w hS => ?_
    refine st1g hS rfl rfl rfl hb (bins rfl rfl rfl) rfl fun a w hS => ?_
    exact wpList_nil (hK _ _ (hS.up 2 rfl rfl))
  refine st1 hS (mv rfl) rfl fun a w hS => ?_
  refine g_op 2 true 47 (b := ((((x1485 == ([] : List UInt8)) && (x1486 == (2 : Int))) && (x1487 == (0 : Int))) && (x1488 == ([97] : List UInt8)))) (r := (x1489 == (6 : Int))) hS rfl rfl rfl rfl rfl rfl rfl (fun hb a w hS K hK => ?_) rfl fun a w hS => ?_
  · refine st1g hS rfl rfl rfl hb (mv rfl) rfl fun a w hS => ?_
    refine st1g hS rfl rfl rfl hb (bin rfl rfl rfl) rfl fun a w hS => ?_
    exact wpList_nil (hK _ _ (hS.up 2 rfl rfl))
  refine st1 hS (mv rfl) rfl fun a w hS => ?_
  refine g_op 2 true 51 (b := (((((x1485 == ([] : List UInt8)) && (x1486 == (2 : Int))) && (x1487 == (0 : Int))) && (x1488 == ([97] : List UInt8))) && (x1489 == (6 : Int)))) (r := (x1490 == (0 : Int))) hS rfl rfl rfl rfl rfl rfl rfl (fun hb a w hS K hK => ?_) rfl fun a w hS => ?_
  · refine st1g hS rfl rfl rfl hb (mv rfl) rfl fun a w hS => ?_
    refine st1g hS rfl rfl rfl hb (bin rfl rfl rfl) rfl fun a w hS => ?_
    exact wpList_nil (hK _ _ (hS.up 2 rfl rfl))
  refine st1 hS (mv rfl) rfl fun a w hS => ?_
  refine g_op 2 true 55 (b := ((((((x1485 == ([] : List UInt8)) && (x1486 == (2 : Int))) && (x1487 == (0 : Int))) && (x1488 == ([97] : List UInt8))) && (x1489 == (6 : Int))) && (x1490 == (0 : Int)))) (r := (x1493 == (3 : Int))) hS rfl rfl rfl rfl rfl rfl rfl (fun hb a w hS K hK => ?_) rfl fun a w hS => ?_
  · refine st1g hS rfl rfl rfl hb (mv rfl) rfl fun a w hS => ?_
    refine st1g hS rfl rfl rfl hb (bin rfl rfl rfl) rfl fun a w hS => ?_
    exact wpList_nil (hK _ _ (hS.up 2 rfl rfl))
  refine st1 hS (mv rfl) rfl fun a w hS => ?_
  refine g_op 2 true 59 (b := (((((((x1485 == ([] : List UInt8)) && (x1486 == (2 : Int))) && (x1487 == (0 : Int))) && (x1488 == ([97] : List UInt8))) && (x1489 == (6 : Int))) && (x1490 == (0 : Int))) && (x1493 == (3 : Int)))) (r := (x1496 == (11 : Int))) hS rfl rfl rfl rfl rfl rfl rfl (fun hb a w hS K hK => ?_) rfl fun a w hS => ?_
  · refine st1g hS rfl rfl rfl hb (mv rfl) rfl fun a w hS => ?_
    refine st1g hS rfl rfl rfl hb (bin rfl rfl rfl) rfl fun a w hS => ?_
    exact wpList_nil (hK _ _ (hS.up 2 rfl rfl))
  refine st1x (v := Value.bool) hS (asg rfl) rfl fun v1497 a w hz hS => ?_
  have hM := lt_to hz hM; clear hz
  refine wpList_nil ?_
  refine then_n ?_
  refine wp_ret ?_
  exact s_ret (rs := [0]) hS rfl rfl (hret v1497 w hM (hS.st.pick [] (by kernel_rfl)))

theorem mortiseref05_Reader_Bits_c {H : Imm} {F : List Frag} {w : World} {R : Ending → World → Prop} {kr : (Int × Int × Int) → Prop} {kp : Value → Prop} (hG : Gl H) (K : Nat) (r1539 : T_mortiseref05_Reader) (n_1543 : Int) (b1540 : Nat) (f1541 : Frag) (hB1542 : Blk f1541 b1540 ([str r1539.S_, .int .i64 r1539.At_]) 49)
    (hS : St w H [f1541] F) (hm : (mortiseref05_Reader_Bits.m K r1539 n_1543).wp kr kp)
    (hret : ∀ (x1562 : Int) (x1563 : Int) (at_1564 : Int) (f1565 : Frag) (w : World), kr (x1562, x1563, at_1564) → (Blk f1565 b1540 ([str r1539.S_, .int .i64 at_1564]) 49) → St w H [f1565] F → R (.returned (.tuple ⟨[.int .u32 x1562, .int .i64 x1563]⟩)) w) :
    Calls Tryd.prog 40 ⟨[ptr b1540 0, .int .i64 n_1543]⟩ w R := by
  refine enter Tryd.func40 rfl Tryd.ntmps40 rfl hS fun a w hS => ?_
  have hM := hm; clear hm
  rw [mortiseref05_Reader_Bits.m] at hM
  refine wp_seq ?_
  refine wp_region_list ?_
  refine st1 hS (asg rfl) rfl fun a w hS => ?_
  refine st1 hS (asg rfl) rfl fun a w hS => ?_
  refine wpList_nil ?_
  refine then_n ?_
  refine wp_seq ?_
  refine wp_seq ?_
  refine wp_region_list ?_
  refine st1 hS (mv rfl) rfl fun a w hS => ?_
  refine st1 hS (bin rfl rfl rfl) rfl fun a w hS => ?_
  refine st1 hS (mv rfl) rfl fun a w hS => ?_
  refine g_op 2 false 12 (b := (decide (n_1543 < (0 : Int)))) (r := (decide (n_1543 > (32 : Int)))) hS rfl rfl rfl rfl rfl rfl rfl (fun hb a w hS K hK => ?_) rfl fun a w hS => ?_
  · refine st1g hS rfl rfl rfl hb (mv rfl) rfl fun a w hS => ?_
    refine st1g hS rfl rfl rfl hb (bin rfl rfl rfl) rfl fun a w hS => ?_
    exact wpList_nil (hK _ _ (hS.up 2 rfl rfl))
  refine wpList_nil ?_
  refine then_n ?_
  refine s_cond hS rfl hM (fun hb1544 hM => ?_) (fun hb1544 hM => ?_)
  · refine wp_seq ?_
    refine wp_region_list ?_
    refine st1 hS (asg rfl) rfl fun a w hS => ?_
    refine st1 hS (asg rfl) rfl fun a w hS => ?_
    refine wpList_nil ?_
    refine then_n ?_
    refine wp_ret ?_
    refine then_ret ?_
    exact s_ret (rs := [4, 5]) hS rfl rfl (hret (0 : Int) (1 : Int) r1539.At_ f1541 w hM hB1542 (hS.st.pick [0] (by kernel_rfl)))
  · refine wp_skip ?_
    refine then_n ?_
    refine wp_seq ?_
    refine wp_seq ?_
    refine draw_begin (vals := [some (.int .i64 n_1543), some (ptr b1540 0), some (ptr b1540 0), some (ptr b1540 0), some (str r1539.S_), some (.int .i64 (r1539.S_.length : Int)), some (.int .i64 (w64 ((8 : Int) * (r1539.S_.length : Int)))), some (ptr b1540 0), some (ptr b1540 0), some (ptr b1540 1), some (.int .i64 r1539.At_), some (.int .i64 (w64 ((w64 ((8 : Int) * (r1539.S_.length : Int))) - r1539.At_))), some (.bool (decide (n_1543 > (w64 ((w64 ((8 : Int) * (r1539.S_.length : Int))) - r1539.At_)))))]) hS mixed rfl ?_
    intro l w ho hcl hA hst
    refine phaseE (vals := [some (.int .i64 n_1543), some (ptr b1540 0), some (ptr b1540 0), some (ptr b1540 0), some (str r1539.S_), some (.int .i64 (r1539.S_.length : Int)), some (.int .i64 (w64 ((8 : Int) * (r1539.S_.length : Int)))), some (ptr b1540 0), some (ptr b1540 0), some (ptr b1540 1), some (.int .i64 r1539.At_), some (.int .i64 (w64 ((w64 ((8 : Int) * (r1539.S_.length : Int))) - r1539.At_))), some (.bool (decide (n_1543 > (w64 ((w64 ((8 : Int) * (r1539.S_.length : Int))) - r1539.At_)))))]) [] [0, 1, 2, 3, 4, 5, 6, 7, 8, 9, 10, 11, 12] rfl rfl rfl (by exact ⟨nR rfl rfl rfl rfl rfl (by exact ovE (mv rfl) rfl), nR rfl rfl rfl rfl rfl (by exact ovE (mv rfl) rfl), nR rfl rfl rfl rfl rfl (by exact ovE (nck rfl) rfl), nR rfl rfl rfl rfl rfl (by exact ovE (fad rfl Tryd.runUnderlying49 rfl Tryd.sizeOf9 rfl) rfl), nR rfl rfl rfl rfl rfl (by exact ovE (ldb 0 rfl hB1542 rfl rfl Tryd.isAgg9) rfl), nR rfl rfl rfl rfl rfl (by exact ovE (lenS rfl Tryd.runUnderlying9) rfl), nR rfl rfl rfl rfl rfl (by exact ovE (bin rfl rfl rfl) rfl), nR rfl rfl rfl rfl rfl (by exact ovE (mv rfl) rfl), nR rfl rfl rfl rfl rfl (by exact ovE (nck rfl) rfl), nR rfl rfl rfl rfl rfl (by exact ovE (fad rfl Tryd.runUnderlying49 rfl Tryd.sizeOf3 rfl) rfl), nR rfl rfl rfl rfl rfl (by exact ovE (ldb 0 rfl hB1542 rfl rfl Tryd.isAgg3) rfl), nR rfl rfl rfl rfl rfl (by exact ovE (bin rfl rfl rfl) rfl), nR rfl rfl rfl rfl rfl (by exact ovE (bin rfl rfl rfl) rfl), trivial⟩) (fun a w hS => ?_) ho hcl (fun m hm => (List.not_mem_nil hm).elim) hA hst
    replace hS := hS.env2 (e' := [(0, ptr b1540 0), (1, .int .i64 n_1543), (28, .bool (decide (n_1543 > (w64 ((w64 ((8 : Int) * (r1539.S_.length : Int))) - r1539.At_)))))]) ⟨rfl, rfl, rfl, trivial⟩
    refine then_n ?_
    refine s_cond hS rfl hM (fun hb1545 hM => ?_) (fun hb1545 hM => ?_)
    · refine wp_seq ?_
      refine wp_region_list ?_
      refine st1 hS (asg rfl) rfl fun a w hS => ?_
      refine st1 hS (asg rfl) rfl fun a w hS => ?_
      refine wpList_nil ?_
      refine then_n ?_
      refine wp_ret ?_
      refine then_ret ?_
      exact s_ret (rs := [4, 5]) hS rfl rfl (hret (0 : Int) (2 : Int) r1539.At_ f1541 w hM hB1542 (hS.st.pick [0] (by kernel_rfl)))
    · refine wp_skip ?_
      refine then_n ?_
      refine wp_seq ?_
      refine wp_region_list ?_
      refine st1 hS (asg rfl) rfl fun a w hS => ?_
      refine wpList_nil ?_
      refine then_n ?_
      refine seq_joinJ (fun a w => ∃ (v1558 : Int), Ss 69 [] [(0, ptr b1540 0), (1, .int .i64 n_1543), (6, .int .u32 v1558)] H [f1541] F a w ∧ (mortiseref05_Reader_Bits.j2 K r1539 n_1543 v1558).wp kr kp) (fun J1559 hJ1559 => ?_) ?_
      · refine wp_seq ?_
        refine wp_region_list ?_
        refine st1 hS (asg rfl) rfl fun a w hS => ?_
        refine wpList_nil ?_
        refine then_n ?_
        refine wp_block ?_
        refine s_loopJ (fun k1548 a w => ∃ (v1546 : Int) (i1547 : Int), Ss 69 [] [(0, ptr b1540 0), (1, .int .i64 n_1543), (6, .int .u32 v1546), (7, .int .i64 i1547)] H [f1541] F a w ∧ (mortiseref05_Reader_Bits.l1 K r1539 n_1543 k1548 v1546 i1547).wp kr kp) K ?_ ?_ ?_
        · exact ⟨(0 : Int), (0 : Int), hS.to [0] (by kernel_rfl) ⟨rfl, rfl, rfl, rfl, trivial⟩, hM⟩
        · intro a w hI; obtain ⟨_, _, _, hM⟩ := hI; exact hM
        · intro k1548 a w hI J1557 hJ1557
          obtain ⟨v1546, i1547, hS, hM⟩ := hI
          rw [mortiseref05_Reader_Bits.l1] at hM
          refine wp_seq ?_
          refine wp_seq ?_
          refine wp_region_list ?_
          refine st1 hS (mv rfl) rfl fun a w hS => ?_
          refine st1 hS (mv rfl) rfl fun a w hS => ?_
          refine st1 hS (bin rfl rfl rfl) rfl fun a w hS => ?_
          refine wpList_nil ?_
          refine then_n ?_
          refine s_cond hS rfl hM (fun hb1549 hM => ?_) (fun hb1549 hM => ?_)
          · refine wp_skip ?_
            refine then_n ?_
            refine wp_seq ?_
            refine wp_block ?_
            refine wp_seq ?_
            refine wp_region_list ?_
            refine st1 hS (mv rfl) rfl fun a w hS => ?_
            refine st1 hS (nck rfl) rfl fun a w hS => ?_
            refine st1 hS (fad rfl Tryd.runUnderlying49 rfl Tryd.sizeOf3 rfl) rfl fun a w hS => ?_
            refine st1 hS (ldb 0 rfl hB1542 rfl rfl Tryd.isAgg3) rfl fun a w hS => ?_
            refine st1 hS (mv rfl) rfl fun a w hS => ?_
            refine st1 hS (bin rfl rfl rfl) rfl fun a w hS => ?_
            refine st1x (v := Value.int .i64) hS (asg rfl) rfl fun k_1550 a w hz hS => ?_
            have hM := lt_to hz hM; clear hz
            refine wpList_nil ?_
            refine then_n ?_
            refine wp_seq ?_
            refine wp_region_list ?_
            refine st1 hS (mv rfl) rfl fun a w hS => ?_
            refine st1 hS (nck rfl) rfl fun a w hS => ?_
            refine st1 hS (fad rfl Tryd.runUnderlying49 rfl Tryd.sizeOf9 rfl) rfl fun a w hS => ?_
            refine st1 hS (ldb 0 rfl hB1542 rfl rfl Tryd.isAgg9) rfl fun a w hS => ?_
            refine st1 hS (mv rfl) rfl fun a w hS => ?_
            refine st1 hS (quo rfl rfl rfl) rfl fun a w hS => ?_
            obtain ⟨hk1551, hM⟩ := wp_chk hM
            refine st1 hS (ixs rfl rfl Tryd.runUnderlying9 hk1551) rfl fun a w hS => ?_
            refine st1 hS (cvi rfl Tryd.runUnderlying5 Tryd.runUnderlying33) rfl fun a w hS => ?_
            refine st1 hS (mv rfl) rfl fun a w hS => ?_
            refine st1 hS (rem rfl rfl rfl) rfl fun a w hS => ?_
            refine st1 hS (cvi rfl Tryd.runUnderlying3 Tryd.runUnderlying37) rfl fun a w hS => ?_
            obtain ⟨hk1552, hM⟩ := wp_chk hM
            refine st1 hS (shr rfl rfl hk1552) rfl fun a w hS => ?_
            refine st1 hS (rem rfl rfl rfl) rfl fun a w hS => ?_
            refine st1x (v := Value.int .u32) hS (asg rfl) rfl fun b_1553 a w hz hS => ?_
            have hM := lt_to hz hM; clear hz
            refine wpList_nil ?_
            refine then_n ?_
            refine wp_region_list ?_
            refine st1 hS (mv rfl) rfl fun a w hS => ?_
            refine st1 hS (mv rfl) rfl fun a w hS => ?_
            refine st1 hS (mv rfl) rfl fun a w hS => ?_
            refine st1 hS (cvi rfl Tryd.runUnderlying3 Tryd.runUnderlying37) rfl fun a w hS => ?_
            obtain ⟨hk1554, hM⟩ := wp_chk hM
            refine st1 hS (shl rfl rfl hk1554) rfl fun a w hS => ?_
            refine st1 hS (bin rfl rfl rfl) rfl fun a w hS => ?_
            refine st1x (v := Value.int .u32) hS (asg rfl) rfl fun v1555 a w hz hS => ?_
            have hM := lt_to hz hM; clear hz
            refine wpList_nil ?_
            refine blk_n (then_n ?_)
            refine wp_region_list ?_
            refine st1 hS (mv rfl) rfl fun a w hS => ?_
            refine st1 hS (bin rfl rfl rfl) rfl fun a w hS => ?_
            refine st1x (v := Value.int .i64) hS (asg rfl) rfl fun i1556 a w hz hS => ?_
            have hM := lt_to hz hM; clear hz
            refine wpList_nil ?_
            refine then_n ?_
            exact hJ1557 _ _ ⟨v1555, i1556, hS.to [0] (by kernel_rfl) ⟨rfl, rfl, rfl, rfl, trivial⟩, hM⟩
          · refine wp_exit ?_
            refine then_ex (then_ex (blk_same (then_n ?_)))
            exact hJ1559 _ _ ⟨v1546, hS.to [0] (by kernel_rfl) ⟨rfl, rfl, rfl, trivial⟩, hM⟩
      · intro a w hI
        obtain ⟨v1558, hS, hM⟩ := hI
        rw [mortiseref05_Reader_Bits.j2] at hM
        refine wp_seq ?_
        refine wp_region_list ?_
        refine st1 hS (mv rfl) rfl fun a w hS => ?_
        refine st1 hS (mv rfl) rfl fun a w hS => ?_
        refine st1 hS (nck rfl) rfl fun a w hS => ?_
        refine st1 hS (fad rfl Tryd.runUnderlying49 rfl Tryd.sizeOf3 rfl) rfl fun a w hS => ?_
        refine st1 hS (ldb 0 rfl hB1542 rfl rfl Tryd.isAgg3) rfl fun a w hS => ?_
        refine st1 hS (mv rfl) rfl fun a w hS => ?_
        refine st1 hS (bin rfl rfl rfl) rfl fun a w hS => ?_
        refine st1 hS (nck rfl) rfl fun a w hS => ?_
        refine st1 hS (fad rfl Tryd.runUnderlying49 rfl Tryd.sizeOf3 rfl) rfl fun a w hS => ?_
        refine sto 0 ([str r1539.S_, .int .i64 (w64 (r1539.At_ + n_1543))]) hS rfl rfl hB1542 rfl rfl rfl rfl Tryd.sizeOf3 fun w f1560 hB1561 hS => ?_
        refine wpList_nil ?_
        refine then_n ?_
        refine wp_seq ?_
        refine wp_region_list ?_
        refine st1 hS (mv rfl) rfl fun a w hS => ?_
        refine st1 hS (asg rfl) rfl fun a w hS => ?_
        refine st1 hS (asg rfl) rfl fun a w hS => ?_
        refine wpList_nil ?_
        refine then_n ?_
        refine wp_ret ?_
        exact s_ret (rs := [4, 5]) hS rfl rfl (hret v1558 (0 : Int) (w64 (r1539.At_ + n_1543)) f1560 w hM hB1561 (hS.st.pick [0] (by kernel_rfl)))

theorem mortiseref07_state_bits_c {H : Imm} {F : List Frag} {w : World} {R : Ending → World → Prop} {kr : (Int × Int × Int) → Prop} {kp : Value → Prop} (hG : Gl H) (K : Nat) (s1526 : T_mortiseref07_state) (n_1537 : Int) (from_1538 : Int) (b1527 : Nat) (f1528 : Frag) (b1530 : Nat) (f1531 : Frag) (A1533 : Option Addr) (c1534 : Nat) (f1535 : Frag) (hB1529 : Blk f1528 b1527 ([ptr b1530 0, .slice A1533 s1526.out_.length c1534, .int .i64 s1526.limit_]) 51) (hB1532 : Blk f1531 b1530 ([str s1526.r_.S_, .int .i64 s1526.r_.At_]) 49) (hV1536 : Vec 5 (ci .u8) 1 A1533 s1526.out_ c1534 f1535)
    (hS : St w H [f1528, f1531, f1535] F) (hm : (mortiseref07_state_bits.m K s1526 n_1537 from_1538).wp kr kp)
    (hret : ∀ (x1573 : Int) (x1574 : Int) (at_1575 : Int) (f1576 : Frag) (w : World), kr (x1573, x1574, at_1575) → (Blk f1576 b1530 ([str s1526.r_.S_, .int .i64 at_1575]) 49) → St w H [f1528, f1576, f1535] F → R (.returned (.tuple ⟨[.int .i64 x1573, .int .i64 x1574]⟩)) w) :
    Calls Tryd.prog 27 ⟨[ptr b1527 0, .int .i64 n_1537, .int .i64 from_1538]⟩ w R := by
  refine enter Tryd.func27 rfl Tryd.ntmps27 rfl hS fun a w hS => ?_
  have hM := hm; clear hm
  rw [mortiseref07_state_bits.m] at hM
  refine wp_seq ?_
  refine wp_region_list ?_
  refine st1 hS (asg rfl) rfl fun a w hS => ?_
  refine st1 hS (asg rfl) rfl fun a w hS => ?_
  refine wpList_nil ?_
  refine then_n ?_
  refine wp_seq ?_
  refine wp_region_list ?_
  refine st1 hS (mv rfl) rfl fun a w hS => ?_
  refine st1 hS (nck rfl) rfl fun a w hS => ?_
  refine st1 hS (fad rfl Tryd.runUnderlying51 rfl Tryd.sizeOf47 rfl) rfl fun a w hS => ?_
  refine st1 hS (ldb 0 rfl hB1529 rfl rfl Tryd.isAgg47) rfl fun a w hS => ?_
  refine st1 hS (mv rfl) rfl fun a w hS => ?_
  refine s_call hS rfl Tryd.call40 (mortiseref05_Reader_Bits_c hG K s1526.r_ n_1537 b1530 f1531 hB1532 (hS.st.part 1 [1, 0, 2] (by kernel_rfl)) (wp_bind hM) (fun x1567 x1568 at_1569 f1570 w hM h1571 hst => s_back hS.ev hst.appF rfl fun hS => ?_))
  replace hS : Ss _ _ _ H [f1570, f1528, f1535] F _ _ := hS
  refine st1 hS (mv rfl) rfl fun a w hS => ?_
  refine st1 hS (ex rfl rfl) rfl fun a w hS => ?_
  refine st1 hS (ex rfl rfl) rfl fun a w hS => ?_
  refine st1 hS (asg rfl) rfl fun a w hS => ?_
  refine st1 hS (asg rfl) rfl fun a w hS => ?_
  refine wpList_nil ?_
  refine then_n ?_
  refine wp_seq ?_
  refine wp_region_list ?_
  refine st1 hS (mv rfl) rfl fun a w hS => ?_
  refine st1 hS (mv rfl) rfl fun a w hS => ?_
  refine st1 hS (cvi rfl Tryd.runUnderlying33 Tryd.runUnderlying3) rfl fun a w hS => ?_
  refine st1 hS (bin rfl rfl rfl) rfl fun a w hS => ?_
  refine st1 hS (mv rfl) rfl fun a w hS => ?_
  refine st1x (v := Value.int .i64) hS (asg rfl) rfl fun v1572 a w hz hS => ?_
  have hM := lt_to hz hM; clear hz
  refine st1 hS (asg rfl) rfl fun a w hS => ?_
  refine wpList_nil ?_
  refine then_n ?_
  refine wp_ret ?_
  exact s_ret (rs := [6, 7]) hS rfl rfl (hret v1572 x1568 at_1569 f1570 w hM h1571 (hS.st.pick [1, 0, 2] (by kernel_rfl)))

theorem mortiseref05_Reader_Align_c {H : Imm} {F : List Frag} {w : World} {R : Ending → World → Prop} {kr : Int → Prop} {kp : Value → Prop} (hG : Gl H) (K : Nat) (r1609 : T_mortiseref05_Reader) (b1610 : Nat) (f1611 : Frag) (hB1612 : Blk f1611 b1610 ([str r1609.S_, .int .i64 r1609.At_]) 49)
    (hS : St w H [f1611] F) (hm : (mortiseref05_Reader_Align.m K r1609).wp kr kp)
    (hret : ∀ (at_1628 : Int) (f1629 : Frag) (w : World), kr at_1628 → (Blk f1629 b1610 ([str r1609.S_, .int .i64 at_1628]) 49) → St w H [f1629] F → R (.returned (.tuple ⟨[]⟩)) w) :
    Calls Tryd.prog 50 ⟨[ptr b1610 0]⟩ w R := by
  refine enter Tryd.func50 rfl Tryd.ntmps50 rfl hS fun a w hS => ?_
  have hM := hm; clear hm
  rw [mortiseref05_Reader_Align.m] at hM
  refine wp_block ?_
  refine s_loopJ (fun k1623 a w => ∃ (at_1620 : Int) (f1621 : Frag), Ss 15 [] [(0, ptr b1610 0)] H [f1621] F a w ∧ (Blk f1621 b1610 ([str r1609.S_, .int .i64 at_1620]) 49) ∧ (mortiseref05_Reader_Align.l1 K k1623 at_1620).wp kr kp) K ?_ ?_ ?_
  · exact ⟨r1609.At_, f1611, hS.to [0] (by kernel_rfl) ⟨rfl, trivial⟩, hB1612, hM⟩
  · intro a w hI; obtain ⟨_, _, _, _, hM⟩ := hI; exact hM
  · intro k1623 a w hI J1627 hJ1627
    obtain ⟨at_1620, f1621, hS, hB1622, hM⟩ := hI
    rw [mortiseref05_Reader_Align.l1] at hM
    refine wp_seq ?_
    refine wp_seq ?_
    refine wp_region_list ?_
    refine st1 hS (mv rfl) rfl fun a w hS => ?_
    refine st1 hS (nck rfl) rfl fun a w hS => ?_
    refine st1 hS (fad rfl Tryd.runUnderlying49 rfl Tryd.sizeOf3 rfl) rfl fun a w hS => ?_
    refine st1 hS (ldb 0 rfl hB1622 rfl rfl Tryd.isAgg3) rfl fun a w hS => ?_
    refine st1 hS (rem rfl rfl rfl) rfl fun a w hS => ?_
    refine st1 hS (bin rfl rfl rfl) rfl fun a w hS => ?_
    refine wpList_nil ?_
    refine then_n ?_
    refine s_cond hS rfl hM (fun hb1624 hM => ?_) (fun hb1624 hM => ?_)
    · refine wp_skip ?_
      refine then_n ?_
      refine wp_block ?_
      refine wp_region_list ?_
      refine st1 hS (mv rfl) rfl fun a w hS => ?_
      refine st1 hS (nck rfl) rfl fun a w hS => ?_
      refine st1 hS (fad rfl Tryd.runUnderlying49 rfl Tryd.sizeOf3 rfl) rfl fun a w hS => ?_
      refine st1 hS (ldb 0 rfl hB1622 rfl rfl Tryd.isAgg3) rfl fun a w hS => ?_
      refine st1 hS (bin rfl rfl rfl) rfl fun a w hS => ?_
      refine st1 hS (nck rfl) rfl fun a w hS => ?_
      refine st1 hS (fad rfl Tryd.runUnderlying49 rfl Tryd.sizeOf3 rfl) rfl fun a w hS => ?_
      refine sto 0 ([str r1609.S_, .int .i64 (w64 (at_1620 + (1 : Int)))]) hS rfl rfl hB1622 rfl rfl rfl rfl Tryd.sizeOf3 fun w f1625 hB1626 hS => ?_
      refine wpList_nil ?_
      refine blk_n (then_n ?_)
      exact hJ1627 _ _ ⟨(w64 (at_1620 + (1 : Int))), f1625, hS.to [0] (by kernel_rfl) ⟨rfl, trivial⟩, hB1626, hM⟩
    · refine wp_exit ?_
      refine then_ex (then_ex (blk_same ?_))
      exact s_end (rs := []) hS rfl rfl (hret at_1620 f1621 w hM hB1622 (hS.st.pick [0] (by kernel_rfl)))

theorem mortiseref05_Reader_Bytes_c {H : Imm} {F : List Frag} {w : World} {R : Ending → World → Prop} {kr : ((List UInt8) × Int × Int) → Prop} {kp : Value → Prop} (hG : Gl H) (K : Nat) (r1603 : T_mortiseref05_Reader) (n_1607 : Int) (b1604 : Nat) (f1605 : Frag) (hB1606 : Blk f1605 b1604 ([str r1603.S_, .int .i64 r1603.At_]) 49)
    (hS : St w H [f1605] F) (hm : (mortiseref05_Reader_Bytes.m K r1603 n_1607).wp kr kp)
    (hret : ∀ (x1640 : List UInt8) (x1641 : Int) (at_1642 : Int) (f1643 : Frag) (w : World), kr (x1640, x1641, at_1642) → (Blk f1643 b1604 ([str r1603.S_, .int .i64 at_1642]) 49) → St w H [f1643] F → R (.returned (.tuple ⟨[str x1640, .int .i64 x1641]⟩)) w) :
    Calls Tryd.prog 41 ⟨[ptr b1604 0, .int .i64 n_1607]⟩ w R := by
  refine enter Tryd.func41 rfl Tryd.ntmps41 rfl hS fun a w hS => ?_
  have hM := hm; clear hm
  rw [mortiseref05_Reader_Bytes.m] at hM
  refine wp_seq ?_
  refine wp_region_list ?_
  refine st1 hS (asg rfl) rfl fun a w hS => ?_
  refine st1 hS (asg rfl) rfl fun a w hS => ?_
  refine wpList_nil ?_
  refine then_n ?_
  refine wp_seq ?_
  refine wp_seq ?_
  refine wp_region_list ?_
  refine st1 hS (mv rfl) rfl fun a w hS => ?_
  refine st1 hS (bin rfl rfl rfl) rfl fun a w hS => ?_
  refine wpList_nil ?_
  refine then_n ?_
  refine s_cond hS rfl hM (fun hb1608 hM => ?_) (fun hb1608 hM => ?_)
  · refine wp_seq ?_
    refine wp_region_list ?_
    refine st1 hS (asg rfl) rfl fun a w hS => ?_
    refine st1 hS (asg rfl) rfl fun a w hS => ?_
    refine wpList_nil ?_
    refine then_n ?_
    refine wp_ret ?_
    refine then_ret ?_
    exact s_ret (rs := [4, 5]) hS rfl rfl (hret ([] : List UInt8) (1 : Int) r1603.At_ f1605 w hM hB1606 (hS.st.pick [0] (by kernel_rfl)))
  · refine wp_skip ?_
    refine then_n ?_
    refine wp_seq ?_
    refine wp_region_list ?_
    refine st1 hS (mv rfl) rfl fun a w hS => ?_
    refine s_call hS rfl Tryd.call50 (mortiseref05_Reader_Align_c hG K r1603 b1604 f1605 hB1606 (hS.st.part 1 [0] (by kernel_rfl)) (wp_bind hM) (fun at_1631 f1632 w hM h1633 hst => s_back hS.ev hst.appF rfl fun hS => ?_))
    replace hS : Ss _ _ _ H [f1632] F _ _ := hS
    refine wpList_nil ?_
    refine then_n ?_
    refine wp_seq ?_
    refine wp_region_list ?_
    refine st1 hS (mv rfl) rfl fun a w hS => ?_
    refine st1 hS (nck rfl) rfl fun a w hS => ?_
    refine st1 hS (fad rfl Tryd.runUnderlying49 rfl Tryd.sizeOf3 rfl) rfl fun a w hS => ?_
    refine st1 hS (ldb 0 rfl h1633 rfl rfl Tryd.isAgg3) rfl fun a w hS => ?_
    refine st1 hS (quo rfl rfl rfl) rfl fun a w hS => ?_
    refine st1x (v := Value.int .i64) hS (asg rfl) rfl fun at_1634 a w hz hS => ?_
    have hM := lt_to hz hM; clear hz
    refine wpList_nil ?_
    refine then_n ?_
    refine wp_seq ?_
    refine wp_seq ?_
    refine wp_region_list ?_
    refine st1 hS (mv rfl) rfl fun a w hS => ?_
    refine st1 hS (mv rfl) rfl fun a w hS => ?_
    refine st1 hS (nck rfl) rfl fun a w hS => ?_
    refine st1 hS (fad rfl Tryd.runUnderlying49 rfl Tryd.sizeOf9 rfl) rfl fun a w hS => ?_
    refine st1 hS (ldb 0 rfl h1633 rfl rfl Tryd.isAgg9) rfl fun a w hS => ?_
    refine st1 hS (lenS rfl Tryd.runUnderlying9) rfl fun a w hS => ?_
    refine st1 hS (mv rfl) rfl fun a w hS => ?_
    refine st1 hS (bin rfl rfl rfl) rfl fun a w hS => ?_
    refine st1 hS (bin rfl rfl rfl) rfl fun a w hS => ?_
    refine wpList_nil ?_
    refine then_n ?_
    refine s_cond hS rfl hM (fun hb1635 hM => ?_) (fun hb1635 hM => ?_)
    · refine wp_seq ?_
      refine wp_region_list ?_
      refine st1 hS (asg rfl) rfl fun a w hS => ?_
      refine st1 hS (asg rfl) rfl fun a w hS => ?_
      refine wpList_nil ?_
      refine then_n ?_
      refine wp_ret ?_
      refine then_ret ?_
      exact s_ret (rs := [4, 5]) hS rfl rfl (hret ([] : List UInt8) (2 : Int) at_1631 f1632 w hM h1633 (hS.st.pick [0] (by kernel_rfl)))
    · refine wp_skip ?_
      refine then_n ?_
      refine wp_seq ?_
      refine wp_region_list ?_
      refine st1 hS (mv rfl) rfl fun a w hS => ?_
      refine st1 hS (mv rfl) rfl fun a w hS => ?_
      refine st1 hS (nck rfl) rfl fun a w hS => ?_
      refine st1 hS (fad rfl Tryd.runUnderlying49 rfl Tryd.sizeOf3 rfl) rfl fun a w hS => ?_
      refine st1 hS (ldb 0 rfl h1633 rfl rfl Tryd.isAgg3) rfl fun a w hS => ?_
      refine st1 hS (mv rfl) rfl fun a w hS => ?_
      refine st1 hS (bin rfl rfl rfl) rfl fun a w hS => ?_
      refine st1 hS (bin rfl rfl rfl) rfl fun a w hS => ?_
      refine st1 hS (nck rfl) rfl fun a w hS => ?_
      refine st1 hS (fad rfl Tryd.runUnderlying49 rfl Tryd.sizeOf3 rfl) rfl fun a w hS => ?_
      refine sto 0 ([str r1603.S_, .int .i64 (w64 (at_1631 + (w64 ((8 : Int) * n_1607))))]) hS rfl rfl h1633 rfl rfl rfl rfl Tryd.sizeOf3 fun w f1636 hB1637 hS => ?_
      refine wpList_nil ?_
      refine then_n ?_
      refine wp_seq ?_
      refine wp_region_list ?_
      refine st1 hS (mv rfl) rfl fun a w hS => ?_
      refine st1 hS (nck rfl) rfl fun a w hS => ?_
      refine st1 hS (fad rfl Tryd.runUnderlying49 rfl Tryd.sizeOf9 rfl) rfl fun a w hS => ?_
      refine st1 hS (ldb 0 rfl hB1637 rfl rfl Tryd.isAgg9) rfl fun a w hS => ?_
      refine st1 hS (mv rfl) rfl fun a w hS => ?_
      refine st1 hS (mv rfl) rfl fun a w hS => ?_
      refine st1 hS (mv rfl) rfl fun a w hS => ?_
      refine st1 hS (bin rfl rfl rfl) rfl fun a w hS => ?_
      obtain ⟨hk1638, hM⟩ := wp_chk hM
      refine st1 hS (slS rfl Tryd.runUnderlying9 (loS rfl) (hiS rfl) hk1638) rfl fun a w hS => ?_
      refine st1x (v := str) hS (asg rfl) rfl fun v1639 a w hz hS => ?_
      have hM := lt_to hz hM; clear hz
      refine st1 hS (asg rfl) rfl fun a w hS => ?_
      refine wpList_nil ?_
      refine then_n ?_
      refine wp_ret ?_
      exact s_ret (rs := [4, 5]) hS rfl rfl (hret v1639 (0 : Int) (w64 (at_1631 + (w64 ((8 : Int) * n_1607)))) f1636 w hM hB1637 (hS.st.pick [0] (by kernel_rfl)))

theorem mortiseref07_state_stored_c {H : Imm} {F : List Frag} {w : World} {R : Ending → World → Prop} {kr : (Int × Int × (List Int)) → Prop} {kp : Value → Prop} (hG : Gl H) (K : Nat) (s1592 : T_mortiseref07_state) (b1593 : Nat) (f1594 : Frag) (b1596 : Nat) (f1597 : Frag) (A1599 : Option Addr) (c1600 : Nat) (f1601 : Frag) (hB1595 : Blk f1594 b1593 ([ptr b1596 0, .slice A1599 s1592.out_.length c1600, .int .i64 s1592.limit_]) 51) (hB1598 : Blk f1597 b1596 ([str s1592.r_.S_, .int .i64 s1592.r_.At_]) 49) (hV1602 : Vec 5 (ci .u8) 1 A1599 s1592.out_ c1600 f1601)
    (hS : St w H [f1594, f1597, f1601] F) (hm : (mortiseref07_state_stored.m K s1592).wp kr kp)
    (hret : ∀ (x1677 : Int) (at_1678 : Int) (f1679 : Frag) (A1681 : Option Addr) (c1682 : Nat) (out1683 : (List Int)) (f1684 : Frag) (f1686 : Frag) (w : World), kr (x1677, at_1678, out1683) → (Blk f1679 b1596 ([str s1592.r_.S_, .int .i64 at_1678]) 49) → (Vec 5 (ci .u8) 1 A1681 out1683 c1682 f1684) → (Blk f1686 b1593 ([ptr b1596 0, .slice A1681 out1683.length c1682, .int .i64 s1592.limit_]) 51) → St w H [f1686, f1679, f1684] F → R (.returned (.int .i64 x1677)) w) :
    Calls Tryd.prog 28 ⟨[ptr b1593 0]⟩ w R := by
  refine enter Tryd.func28 rfl Tryd.ntmps28 rfl hS fun a w hS => ?_
  have hM := hm; clear hm
  rw [mortiseref07_state_stored.m] at hM
  refine wp_seq ?_
  refine wp_region_list ?_
  refine st1 hS (asg rfl) rfl fun a w hS => ?_
  refine wpList_nil ?_
  refine then_n ?_
  refine wp_seq ?_
  refine wp_region_list ?_
  refine st1 hS (mv rfl) rfl fun a w hS => ?_
  refine st1 hS (nck rfl) rfl fun a w hS => ?_
  refine st1 hS (fad rfl Tryd.runUnderlying51 rfl Tryd.sizeOf47 rfl) rfl fun a w hS => ?_
  refine st1 hS (ldb 0 rfl hB1595 rfl rfl Tryd.isAgg47) rfl fun a w hS => ?_
  refine s_call hS rfl Tryd.call41 (mortiseref05_Reader_Bytes_c hG K s1592.r_ (4 : Int) b1596 f1597 hB1598 (hS.st.part 1 [1, 0, 2] (by kernel_rfl)) (wp_bind hM) (fun x1645 x1646 at_1647 f1648 w hM h1649 hst => s_back hS.ev hst.appF rfl fun hS => ?_))
  replace hS : Ss _ _ _ H [f1648, f1594, f1601] F _ _ := hS
  refine st1 hS (mv rfl) rfl fun a w hS => ?_
  refine st1 hS (ex rfl rfl) rfl fun a w hS => ?_
  refine st1 hS (ex rfl rfl) rfl fun a w hS => ?_
  refine st1 hS (asg rfl) rfl fun a w hS => ?_
  refine st1 hS (asg rfl) rfl fun a w hS => ?_
  refine wpList_nil ?_
  refine then_n ?_
  refine wp_seq ?_
  refine wp_seq ?_
  refine wp_region_list ?_
  refine st1 hS (mv rfl) rfl fun a w hS => ?_
  refine st1 hS (bin rfl rfl rfl) rfl fun a w hS => ?_
  refine wpList_nil ?_
  refine then_n ?_
  refine s_cond hS rfl hM (fun hb1650 hM => ?_) (fun hb1650 hM => ?_)
  · refine wp_seq ?_
    refine wp_region_list ?_
    refine st1 hS (mv rfl) rfl fun a w hS => ?_
    refine st1 hS (asg rfl) rfl fun a w hS => ?_
    refine wpList_nil ?_
    refine then_n ?_
    refine wp_ret ?_
    refine then_ret ?_
    exact s_ret (rs := [2]) hS rfl rfl (hret x1646 at_1647 f1648 A1599 c1600 s1592.out_ f1601 f1594 w hM h1649 hV1602 hB1595 (hS.st.pick [1, 0, 2] (by kernel_rfl)))
  · refine wp_skip ?_
    refine then_n ?_
    refine wp_seq ?_
    obtain ⟨hk1652, hM⟩ := wp_chk hM
    obtain ⟨hk1654, hM⟩ := wp_chk hM
    obtain ⟨n_1655, hz1656⟩ : ∃ x, x = (w64 ((wr .i64 ((rd x1645 (0 : Int)).toNat : Int)) + (w64 ((256 : Int) * (wr .i64 ((rd x1645 (1 : Int)).toNat : Int)))))) := ⟨_, rfl⟩
    replace hM := lt_to hz1656 hM
    refine draw_begin (vals := [some (str x1645), some (.int .u8 ((rd x1645 (0 : Int)).toNat : Int)), some (.int .i64 (wr .i64 ((rd x1645 (0 : Int)).toNat : Int))), some (str x1645), some (.int .u8 ((rd x1645 (1 : Int)).toNat : Int)), some (.int .i64 (wr .i64 ((rd x1645 (1 : Int)).toNat : Int))), some (.int .i64 (w64 ((256 : Int) * (wr .i64 ((rd x1645 (1 : Int)).toNat : Int))))), some (.int .i64 (w64 ((wr .i64 ((rd x1645 (0 : Int)).toNat : Int)) + (w64 ((256 : Int) * (wr .i64 ((rd x1645 (1 : Int)).toNat : Int))))))), some (.int .i64 n_1655)]) hS mixed rfl ?_
    intro l w ho hcl hA hst
    refine phaseE (vals := [some (str x1645), some (.int .u8 ((rd x1645 (0 : Int)).toNat : Int)), some (.int .i64 (wr .i64 ((rd x1645 (0 : Int)).toNat : Int))), some (str x1645), some (.int .u8 ((rd x1645 (1 : Int)).toNat : Int)), some (.int .i64 (wr .i64 ((rd x1645 (1 : Int)).toNat : Int))), some (.int .i64 (w64 ((256 : Int) * (wr .i64 ((rd x1645 (1 : Int)).toNat : Int))))), some (.int .i64 (w64 ((wr .i64 ((rd x1645 (0 : Int)).toNat : Int)) + (w64 ((256 : Int) * (wr .i64 ((rd x1645 (1 : Int)).toNat : Int))))))), some (.int .i64 n_1655)]) [] [0, 1, 2, 3, 4, 5, 6, 7, 8] rfl rfl rfl (by exact ⟨nR rfl rfl rfl rfl rfl (by exact ovE (mv rfl) rfl), nR rfl rfl rfl rfl rfl (by exact ovE (ixs rfl rfl Tryd.runUnderlying9 hk1652) rfl), nR rfl rfl rfl rfl rfl (by exact ovE (cvi rfl Tryd.runUnderlying5 Tryd.runUnderlying3) rfl), nR rfl rfl rfl rfl rfl (by exact ovE (mv rfl) rfl), nR rfl rfl rfl rfl rfl (by exact ovE (ixs rfl rfl Tryd.runUnderlying9 hk1654) rfl), nR rfl rfl rfl rfl rfl (by exact ovE (cvi rfl Tryd.runUnderlying5 Tryd.runUnderlying3) rfl), nR rfl rfl rfl rfl rfl (by exact ovE (bin rfl rfl rfl) rfl), nR rfl rfl rfl rfl rfl (by exact ovE (bin rfl rfl rfl) rfl), nR rfl rfl rfl rfl rfl (by exact ovE (asg rfl) (congrArg (Value.int .i64) hz1656.symm)), trivial⟩) (fun a w hS => ?_) ho hcl (fun m hm => (List.not_mem_nil hm).elim) hA hst
    replace hS := hS.env2 (e' := [(0, ptr b1593 0), (3, str x1645), (5, .int .i64 n_1655)]) ⟨rfl, rfl, rfl, trivial⟩
    refine then_n ?_
    refine wp_seq ?_
    refine wp_seq ?_
    obtain ⟨hk1658, hM⟩ := wp_chk hM
    obtain ⟨hk1660, hM⟩ := wp_chk hM
    refine draw_begin (vals := [some (str x1645), some (.int .u8 ((rd x1645 (2 : Int)).toNat : Int)), some (.int .i64 (wr .i64 ((rd x1645 (2 : Int)).toNat : Int))), some (str x1645), some (.int .u8 ((rd x1645 (3 : Int)).toNat : Int)), some (.int .i64 (wr .i64 ((rd x1645 (3 : Int)).toNat : Int))), some (.int .i64 (w64 ((256 : Int) * (wr .i64 ((rd x1645 (3 : Int)).toNat : Int))))), some (.int .i64 (w64 ((wr .i64 ((rd x1645 (2 : Int)).toNat : Int)) + (w64 ((256 : Int) * (wr .i64 ((rd x1645 (3 : Int)).toNat : Int))))))), some (.int .i64 n_1655), some (.int .i64 (w64 ((65535 : Int) - n_1655))), some (.bool ((w64 ((wr .i64 ((rd x1645 (2 : Int)).toNat : Int)) + (w64 ((256 : Int) * (wr .i64 ((rd x1645 (3 : Int)).toNat : Int)))))) != (w64 ((65535 : Int) - n_1655))))]) hS mixed rfl ?_
    intro l w ho hcl hA hst
    refine phaseE (vals := [some (str x1645), some (.int .u8 ((rd x1645 (2 : Int)).toNat : Int)), some (.int .i64 (wr .i64 ((rd x1645 (2 : Int)).toNat : Int))), some (str x1645), some (.int .u8 ((rd x1645 (3 : Int)).toNat : Int)), some (.int .i64 (wr .i64 ((rd x1645 (3 : Int)).toNat : Int))), some (.int .i64 (w64 ((256 : Int) * (wr .i64 ((rd x1645 (3 : Int)).toNat : Int))))), some (.int .i64 (w64 ((wr .i64 ((rd x1645 (2 : Int)).toNat : Int)) + (w64 ((256 : Int) * (wr .i64 ((rd x1645 (3 : Int)).toNat : Int))))))), some (.int .i64 n_1655), some (.int .i64 (w64 ((65535 : Int) - n_1655))), some (.bool ((w64 ((wr .i64 ((rd x1645 (2 : Int)).toNat : Int)) + (w64 ((256 : Int) * (wr .i64 ((rd x1645 (3 : Int)).toNat : Int)))))) != (w64 ((65535 : Int) - n_1655))))]) [] [0, 1, 2, 3, 4, 5, 6, 7, 8, 9, 10] rfl rfl rfl (by exact ⟨nR rfl rfl rfl rfl rfl (by exact ovE (mv rfl) rfl), nR rfl rfl rfl rfl rfl (by exact ovE (ixs rfl rfl Tryd.runUnderlying9 hk1658) rfl), nR rfl rfl rfl rfl rfl (by exact ovE (cvi rfl Tryd.runUnderlying5 Tryd.runUnderlying3) rfl), nR rfl rfl rfl rfl rfl (by exact ovE (mv rfl) rfl), nR rfl rfl rfl rfl rfl (by exact ovE (ixs rfl rfl Tryd.runUnderlying9 hk1660) rfl), nR rfl rfl rfl rfl rfl (by exact ovE (cvi rfl Tryd.runUnderlying5 Tryd.runUnderlying3) rfl), nR rfl rfl rfl rfl rfl (by exact ovE (bin rfl rfl rfl) rfl), nR rfl rfl rfl rfl rfl (by exact ovE (bin rfl rfl rfl) rfl), nR rfl rfl rfl rfl rfl (by exact ovE (mv rfl) rfl), nR rfl rfl rfl rfl rfl (by exact ovE (bin rfl rfl rfl) rfl), nR rfl rfl rfl rfl rfl (by exact ovE (bin rfl rfl rfl) rfl), trivial⟩) (fun a w hS => ?_) ho hcl (fun m hm => (List.not_mem_nil hm).elim) hA hst
    replace hS := hS.env2 (e' := [(0, ptr b1593 0), (5, .int .i64 n_1655), (37, .bool ((w64 ((wr .i64 ((rd x1645 (2 : Int)).toNat : Int)) + (w64 ((256 : Int) * (wr .i64 ((rd x1645 (3 : Int)).toNat : Int)))))) != (w64 ((65535 : Int) - n_1655))))]) ⟨rfl, rfl, rfl, trivial⟩
    refine then_n ?_
    refine s_cond hS rfl hM (fun hb1661 hM => ?_) (fun hb1661 hM => ?_)
    · refine wp_seq ?_
      refine wp_region_list ?_
      refine st1 hS (asg rfl) rfl fun a w hS => ?_
      refine wpList_nil ?_
      refine then_n ?_
      refine wp_ret ?_
      refine then_ret ?_
      exact s_ret (rs := [2]) hS rfl rfl (hret (3 : Int) at_1647 f1648 A1599 c1600 s1592.out_ f1601 f1594 w hM h1649 hV1602 hB1595 (hS.st.pick [1, 0, 2] (by kernel_rfl)))
    · refine wp_skip ?_
      refine then_n ?_
      refine wp_seq ?_
      refine wp_region_list ?_
      refine st1 hS (mv rfl) rfl fun a w hS => ?_
      refine st1 hS (nck rfl) rfl fun a w hS => ?_
      refine st1 hS (fad rfl Tryd.runUnderlying51 rfl Tryd.sizeOf47 rfl) rfl fun a w hS => ?_
      refine st1 hS (ldb 1 rfl hB1595 rfl rfl Tryd.isAgg47) rfl fun a w hS => ?_
      refine st1 hS (mv rfl) rfl fun a w hS => ?_
      refine s_call hS rfl Tryd.call41 (mortiseref05_Reader_Bytes_c hG K (T_mortiseref05_Reader.mk s1592.r_.S_ at_1647) n_1655 b1596 f1648 h1649 (hS.st.part 1 [0, 1, 2] (by kernel_rfl)) (wp_bind hM) (fun x1662 x1663 at_1664 f1665 w hM h1666 hst => s_back hS.ev hst.appF rfl fun hS => ?_))
      replace hS : Ss _ _ _ H [f1665, f1594, f1601] F _ _ := hS
      refine st1 hS (mv rfl) rfl fun a w hS => ?_
      refine st1 hS (ex rfl rfl) rfl fun a w hS => ?_
      refine st1 hS (ex rfl rfl) rfl fun a w hS => ?_
      refine st1 hS (asg rfl) rfl fun a w hS => ?_
      refine st1 hS (asg rfl) rfl fun a w hS => ?_
      refine wpList_nil ?_
      refine then_n ?_
      refine wp_seq ?_
      refine wp_seq ?_
      refine wp_region_list ?_
      refine st1 hS (mv rfl) rfl fun a w hS => ?_
      refine st1 hS (bin rfl rfl rfl) rfl fun a w hS => ?_
      refine wpList_nil ?_
      refine then_n ?_
      refine s_cond hS rfl hM (fun hb1667 hM => ?_) (fun hb1667 hM => ?_)
      · refine wp_seq ?_
        refine wp_region_list ?_
        refine st1 hS (mv rfl) rfl fun a w hS => ?_
        refine st1 hS (asg rfl) rfl fun a w hS => ?_
        refine wpList_nil ?_
        refine then_n ?_
        refine wp_ret ?_
        refine then_ret ?_
        exact s_ret (rs := [2]) hS rfl rfl (hret x1663 at_1664 f1665 A1599 c1600 s1592.out_ f1601 f1594 w hM h1666 hV1602 hB1595 (hS.st.pick [1, 0, 2] (by kernel_rfl)))
      · refine wp_skip ?_
        refine then_n ?_
        refine wp_seq ?_
        refine wp_seq ?_
        refine draw_begin (vals := [some (.int .i64 n_1655), some (ptr b1593 0), some (ptr b1593 0), some (ptr b1593 2), some (.int .i64 s1592.limit_), some (ptr b1593 0), some (ptr b1593 0), some (ptr b1593 1), some (.slice A1599 s1592.out_.length c1600), some (.int .i64 (s1592.out_.length : Int)), some (.int .i64 (w64 (s1592.limit_ - (s1592.out_.length : Int)))), some (.bool (decide (n_1655 > (w64 (s1592.limit_ - (s1592.out_.length : Int))))))]) hS mixed rfl ?_
        intro l w ho hcl hA hst
        refine phaseE (vals := [some (.int .i64 n_1655), some (ptr b1593 0), some (ptr b1593 0), some (ptr b1593 2), some (.int .i64 s1592.limit_), some (ptr b1593 0), some (ptr b1593 0), some (ptr b1593 1), some (.slice A1599 s1592.out_.length c1600), some (.int .i64 (s1592.out_.length : Int)), some (.int .i64 (w64 (s1592.limit_ - (s1592.out_.length : Int)))), some (.bool (decide (n_1655 > (w64 (s1592.limit_ - (s1592.out_.length : Int))))))]) [] [0, 1, 2, 3, 4, 5, 6, 7, 8, 9, 10, 11] rfl rfl rfl (by exact ⟨nR rfl rfl rfl rfl rfl (by exact ovE (mv rfl) rfl), nR rfl rfl rfl rfl rfl (by exact ovE (mv rfl) rfl), nR rfl rfl rfl rfl rfl (by exact ovE (nck rfl) rfl), nR rfl rfl rfl rfl rfl (by exact ovE (fad rfl Tryd.runUnderlying51 rfl Tryd.sizeOf3 rfl) rfl), nR rfl rfl rfl rfl rfl (by exact ovE (ldb 1 rfl hB1595 rfl rfl Tryd.isAgg3) rfl), nR rfl rfl rfl rfl rfl (by exact ovE (mv rfl) rfl), nR rfl rfl rfl rfl rfl (by exact ovE (nck rfl) rfl), nR rfl rfl rfl rfl rfl (by exact ovE (fad rfl Tryd.runUnderlying51 rfl Tryd.sizeOf30 rfl) rfl), nR rfl rfl rfl rfl rfl (by exact ovE (ldb 1 rfl hB1595 rfl rfl Tryd.isAgg30) rfl), nR rfl rfl rfl rfl rfl (by exact ovE (lenV rfl Tryd.runUnderlying30) rfl), nR rfl rfl rfl rfl rfl (by exact ovE (bin rfl rfl rfl) rfl), nR rfl rfl rfl rfl rfl (by exact ovE (bin rfl rfl rfl) rfl), trivial⟩) (fun a w hS => ?_) ho hcl (fun m hm => (List.not_mem_nil hm).elim) hA hst
        replace hS := hS.env2 (e' := [(0, ptr b1593 0), (6, str x1662), (61, .bool (decide (n_1655 > (w64 (s1592.limit_ - (s1592.out_.length : Int))))))]) ⟨rfl, rfl, rfl, trivial⟩
        refine then_n ?_
        refine s_cond hS rfl hM (fun hb1668 hM => ?_) (fun hb1668 hM => ?_)
        · refine wp_seq ?_
          refine wp_region_list ?_
          refine st1 hS (asg rfl) rfl fun a w hS => ?_
          refine wpList_nil ?_
          refine then_n ?_
          refine wp_ret ?_
          refine then_ret ?_
          exact s_ret (rs := [2]) hS rfl rfl (hret (11 : Int) at_1664 f1665 A1599 c1600 s1592.out_ f1601 f1594 w hM h1666 hV1602 hB1595 (hS.st.pick [1, 0, 2] (by kernel_rfl)))
        · refine wp_skip ?_
          refine then_n ?_
          refine wp_seq ?_
          refine wp_region_list ?_
          refine st1 hS (mv rfl) rfl fun a w hS => ?_
          refine st1 hS (mv rfl) rfl fun a w hS => ?_
          refine st1 hS (nck rfl) rfl fun a w hS => ?_
          refine st1 hS (fad rfl Tryd.runUnderlying51 rfl Tryd.sizeOf30 rfl) rfl fun a w hS => ?_
          refine st1 hS (ldb 1 rfl hB1595 rfl rfl Tryd.isAgg30) rfl fun a w hS => ?_
          refine st1 hS (mv rfl) rfl fun a w hS => ?_
          obtain ⟨hk1669, hM⟩ := wp_chk hM
          refine apS 2 hS rfl rfl hV1602 rfl Tryd.runUnderlying30 Tryd.runUnderlying9 X.el5 rfl hk1669 rfl fun zs1674 w A1670 c1671 f1672 hz hV1673 hS => ?_
          have hM := lt_to hz hM; clear hz
          refine st1 hS (nck rfl) rfl fun a w hS => ?_
          refine st1 hS (fad rfl Tryd.runUnderlying51 rfl Tryd.sizeOf30 rfl) rfl fun a w hS => ?_
          refine sto 1 ([ptr b1596 0, .slice A1670 zs1674.length c1671, .int .i64 s1592.limit_]) hS rfl rfl hB1595 rfl rfl rfl rfl Tryd.sizeOf30 fun w f1675 hB1676 hS => ?_
          refine wpList_nil ?_
          refine then_n ?_
          refine wp_seq ?_
          refine wp_region_list ?_
          refine st1 hS (asg rfl) rfl fun a w hS => ?_
          refine wpList_nil ?_
          refine then_n ?_
          refine wp_ret ?_
          exact s_ret (rs := [2]) hS rfl rfl (hret (0 : Int) at_1664 f1665 A1670 c1671 zs1674 f1672 f1675 w hM h1666 hV1673 hB1676 (hS.st.pick [1, 0, 2] (by kernel_rfl)))

theorem mortiseref07_Fixed_c {H : Imm} {F : List Frag} {w : World} {R : Ending → World → Prop} {kr : ((List Int) × (List Int)) → Prop} {kp : Value → Prop} (hG : Gl H) (K : Nat)
    (hS : St w H [] F) (hm : (mortiseref07_Fixed.m K).wp kr kp)
    (hret : ∀ (A1806 : Option Addr) (c1807 : Nat) (x1808 : (List Int)) (f1809 : Frag) (A1811 : Option Addr) (c1812 : Nat) (x1813 : (List Int)) (f1814 : Frag) (w : World), kr (x1808, x1813) → (Vec 3 (ci .i64) 1 A1806 x1808 c1807 f1809) → (Vec 3 (ci .i64) 1 A1811 x1813 c1812 f1814) → St w H [f1809, f1814] F → R (.returned (.tuple ⟨[.slice A1806 x1808.length c1807, .slice A1811 x1813.length c1812]⟩)) w) :
    Calls Tryd.prog 29 ⟨[]⟩ w R := by
  refine enter Tryd.func29 rfl Tryd.ntmps29 rfl hS fun a w hS => ?_
  have hM := hm; clear hm
  rw [mortiseref07_Fixed.m] at hM
  refine wp_seq ?_
  refine wp_region_list ?_
  refine st1 hS (asg rfl) rfl fun a w hS => ?_
  obtain ⟨f1702, hV1703, hS⟩ := hS.nilV 3 (ci .i64) 1
  refine st1 hS (asg rfl) rfl fun a w hS => ?_
  obtain ⟨f1704, hV1705, hS⟩ := hS.nilV 3 (ci .i64) 1
  refine wpList_nil ?_
  refine then_n ?_
  refine wp_seq ?_
  refine wp_region_list ?_
  obtain ⟨hk1706, hM⟩ := wp_chk hM
  refine mkS (g := (ci .i64)) (0 : Int) hS rfl rfl (by simp) Tryd.runUnderlying67 X.el3 (fun w => ⟨_, Tryd.zeroValue3 w, rfl⟩) (fun _ => rfl) rfl rfl hk1706 rfl fun zs1711 w A1707 c1708 f1709 hz hV1710 hS => ?_
  have hM := lt_to hz hM; clear hz
  refine st1 hS (asg rfl) rfl fun a w hS => ?_
  refine wpList_nil ?_
  refine then_n ?_
  refine seq_joinJ (fun a w => ∃ (l_1770 : (List Int)) (f1771 : Frag), Ss 40 [] [(2, .slice A1707 l_1770.length c1708)] H [f1771] F a w ∧ (Vec 3 (ci .i64) 1 A1707 l_1770 c1708 f1771) ∧ (mortiseref07_Fixed.j2 K l_1770).wp kr kp) (fun J1773 hJ1773 => ?_) ?_
  · refine wp_seq ?_
    refine wp_region_list ?_
    refine st1 hS (asg rfl) rfl fun a w hS => ?_
    refine wpList_nil ?_
    refine then_n ?_
    refine wp_block ?_
    refine s_loopJ (fun k1745 a w => ∃ (l_1741 : (List Int)) (f1742 : Frag) (i1744 : Int), Ss 40 [] [(2, .slice A1707 l_1741.length c1708), (3, .int .i64 i1744)] H [f1742] F a w ∧ (Vec 3 (ci .i64) 1 A1707 l_1741 c1708 f1742) ∧ (mortiseref07_Fixed.l1 K k1745 l_1741 i1744).wp kr kp) K ?_ ?_ ?_
    · exact ⟨zs1711, f1709, (0 : Int), hS.to [0] (by kernel_rfl) ⟨rfl, rfl, trivial⟩, hV1710, hM⟩
    · intro a w hI; obtain ⟨_, _, _, _, _, hM⟩ := hI; exact hM
    · intro k1745 a w hI J1769 hJ1769
      obtain ⟨l_1741, f1742, i1744, hS, hV1743, hM⟩ := hI
      rw [mortiseref07_Fixed.l1] at hM
      refine wp_seq ?_
      refine wp_seq ?_
      refine wp_region_list ?_
      refine st1 hS (mv rfl) rfl fun a w hS => ?_
      refine st1 hS (bin rfl rfl rfl) rfl fun a w hS => ?_
      refine wpList_nil ?_
      refine then_n ?_
      refine s_cond hS rfl hM (fun hb1746 hM => ?_) (fun hb1746 hM => ?_)
      · refine wp_skip ?_
        refine then_n ?_
        refine wp_seq ?_
        refine wp_block ?_
        refine wp_block ?_
        refine wp_seq ?_
        refine wp_region_list ?_
        refine st1 hS (mv rfl) rfl fun a w hS => ?_
        refine st1 hS (bin rfl rfl rfl) rfl fun a w hS => ?_
        refine st1 hS (mv rfl) rfl fun a w hS => ?_
        refine g_op 2 false 17 (b := (decide (i1744 < (144 : Int)))) (r := (decide (i1744 > (279 : Int)))) hS rfl rfl rfl rfl rfl rfl rfl (fun hb a w hS K hK => ?_) rfl fun a w hS => ?_
        · refine st1g hS rfl rfl rfl hb (mv rfl) rfl fun a w hS => ?_
          refine st1g hS rfl rfl rfl hb (bin rfl rfl rfl) rfl fun a w hS => ?_
          exact wpList_nil (hK _ _ (hS.up 2 rfl rfl))
        refine st1x (v := Value.bool) hS (asg rfl) rfl fun v1747 a w hz hS => ?_
        have hM := lt_to hz hM; clear hz
        refine wpList_nil ?_
        refine then_n ?_
        refine s_cond hS rfl hM (fun hb1748 hM => ?_) (fun hb1748 hM => ?_)
        · refine wp_region_list ?_
          refine st1 hS (mv rfl) rfl fun a w hS => ?_
          refine st1 hS (mv rfl) rfl fun a w hS => ?_
          obtain ⟨hk1749, hM⟩ := wp_chk hM
          refine st1 hS (ixV rfl rfl Tryd.runUnderlying67 Tryd.sizeOf3 (hV1743.rd (i := 0) rfl) (fun _ => rfl) rfl hk1749) rfl fun a w hS => ?_
          refine stV 0 0 ((8 : Int)) hS rfl rfl hV1743 rfl Tryd.sizeOf3 (one_t3 (8 : Int)) (fun _ => rfl) hk1749 rfl rfl fun zs1752 w f1750 hz hz1753 hV1751 hS => ?_
          have hM := lt_to hz hM; clear hz
          replace hS := hS.re 2 (u := .slice A1707 l_1741.length c1708) (v := .slice A1707 zs1752.length c1708) rfl (by rw [hz1753])
          replace hS := hS.re 21 (u := .slice A1707 l_1741.length c1708) (v := .slice A1707 zs1752.length c1708) rfl (by rw [hz1753])
          refine wpList_nil ?_
          refine blk_n (blk_n (then_n ?_))
          refine wp_region_list ?_
          refine st1 hS (mv rfl) rfl fun a w hS => ?_
          refine st1 hS (bin rfl rfl rfl) rfl fun a w hS => ?_
          refine st1x (v := Value.int .i64) hS (asg rfl) rfl fun i1754 a w hz hS => ?_
          have hM := lt_to hz hM; clear hz
          refine wpList_nil ?_
          refine then_n ?_
          exact hJ1769 _ _ ⟨zs1752, f1750, i1754, hS.to [0] (by kernel_rfl) ⟨rfl, rfl, trivial⟩, hV1751, hM⟩
        · refine wp_seq ?_
          refine wp_region_list ?_
          refine st1 hS (mv rfl) rfl fun a w hS => ?_
          refine st1 hS (bin rfl rfl rfl) rfl fun a w hS => ?_
          refine st1x (v := Value.bool) hS (asg rfl) rfl fun v1755 a w hz hS => ?_
          have hM := lt_to hz hM; clear hz
          refine wpList_nil ?_
          refine then_n ?_
          refine s_cond hS rfl hM (fun hb1756 hM => ?_) (fun hb1756 hM => ?_)
          · refine wp_region_list ?_
            refine st1 hS (mv rfl) rfl fun a w hS => ?_
            refine st1 hS (mv rfl) rfl fun a w hS => ?_
            obtain ⟨hk1757, hM⟩ := wp_chk hM
            refine st1 hS (ixV rfl rfl Tryd.runUnderlying67 Tryd.sizeOf3 (hV1743.rd (i := 0) rfl) (fun _ => rfl) rfl hk1757) rfl fun a w hS => ?_
            refine stV 0 0 ((9 : Int)) hS rfl rfl hV1743 rfl Tryd.sizeOf3 (one_t3 (9 : Int)) (fun _ => rfl) hk1757 rfl rfl fun zs1760 w f1758 hz hz1761 hV1759 hS => ?_
            have hM := lt_to hz hM; clear hz
            replace hS := hS.re 2 (u := .slice A1707 l_1741.length c1708) (v := .slice A1707 zs1760.length c1708) rfl (by rw [hz1761])
            replace hS := hS.re 27 (u := .slice A1707 l_1741.length c1708) (v := .slice A1707 zs1760.length c1708) rfl (by rw [hz1761])
            refine wpList_nil ?_
            refine blk_n (blk_n (then_n ?_))
            refine wp_region_list ?_
            refine st1 hS (mv rfl) rfl fun a w hS => ?_
            refine st1 hS (bin rfl rfl rfl) rfl fun a w hS => ?_
            refine st1x (v := Value.int .i64) hS (asg rfl) rfl fun i1762 a w hz hS => ?_
            have hM := lt_to hz hM; clear hz
            refine wpList_nil ?_
            refine then_n ?_
            exact hJ1769 _ _ ⟨zs1760, f1758, i1762, hS.to [0] (by kernel_rfl) ⟨rfl, rfl, trivial⟩, hV1759, hM⟩
          · refine wp_region_list ?_
            refine st1 hS (mv rfl) rfl fun a w hS => ?_
            refine st1 hS (mv rfl) rfl fun a w hS => ?_
            obtain ⟨hk1763, hM⟩ := wp_chk hM
            refine st1 hS (ixV rfl rfl Tryd.runUnderlying67 Tryd.sizeOf3 (hV1743.rd (i := 0) rfl) (fun _ => rfl) rfl hk1763) rfl fun a w hS => ?_
            refine stV 0 0 ((7 : Int)) hS rfl rfl hV1743 rfl Tryd.sizeOf3 (one_t3 (7 : Int)) (fun _ => rfl) hk1763 rfl rfl fun zs1766 w f1764 hz hz1767 hV1765 hS => ?_
            have hM := lt_to hz hM; clear hz
            replace hS := hS.re 2 (u := .slice A1707 l_1741.length c1708) (v := .slice A1707 zs1766.length c1708) rfl (by rw [hz1767])
            replace hS := hS.re 11 (u := .slice A1707 l_1741.length c1708) (v := .slice A1707 zs1766.length c1708) rfl (by rw [hz1767])
            refine wpList_nil ?_
            refine blk_n (blk_n (then_n ?_))
            refine wp_region_list ?_
            refine st1 hS (mv rfl) rfl fun a w hS => ?_
            refine st1 hS (bin rfl rfl rfl) rfl fun a w hS => ?_
            refine st1x (v := Value.int .i64) hS (asg rfl) rfl fun i1768 a w hz hS => ?_
            have hM := lt_to hz hM; clear hz
            refine wpList_nil ?_
            refine then_n ?_
            exact hJ1769 _ _ ⟨zs1766, f1764, i1768, hS.to [0] (by kernel_rfl) ⟨rfl, rfl, trivial⟩, hV1765, hM⟩
      · refine wp_exit ?_
        refine then_ex (then_ex (blk_same (then_n ?_)))
        exact hJ1773 _ _ ⟨l_1741, f1742, hS.to [0] (by kernel_rfl) ⟨rfl, trivial⟩, hV1743, hM⟩
  · intro a w hI
    obtain ⟨l_1770, f1771, hS, hV1772, hM⟩ := hI
    rw [mortiseref07_Fixed.j2] at hM
    refine wp_seq ?_
    refine wp_region_list ?_
    obtain ⟨hk1774, hM⟩ := wp_chk hM
    refine mkS (g := (ci .i64)) (0 : Int) hS rfl rfl (by simp) Tryd.runUnderlying67 X.el3 (fun w => ⟨_, Tryd.zeroValue3 w, rfl⟩) (fun _ => rfl) rfl rfl hk1774 rfl fun zs1779 w A1775 c1776 f1777 hz hV1778 hS => ?_
    have hM := lt_to hz hM; clear hz
    refine st1 hS (asg rfl) rfl fun a w hS => ?_
    refine wpList_nil ?_
    refine then_n ?_
    refine wp_seq ?_
    refine wp_seq ?_
    refine wp_region_list ?_
    refine st1 hS (asg rfl) rfl fun a w hS => ?_
    refine wpList_nil ?_
    refine then_n ?_
    refine wp_block ?_
    refine s_loopJ (fun k1797 a w => ∃ (d1793 : (List Int)) (f1794 : Frag) (i1796 : Int), Ss 40 [] [(2, .slice A1707 l_1770.length c1708), (4, .slice A1775 d1793.length c1776), (5, .int .i64 i1796)] H [f1771, f1794] F a w ∧ (Vec 3 (ci .i64) 1 A1775 d1793 c1776 f1794) ∧ (mortiseref07_Fixed.l3 K l_1770 k1797 d1793 i1796).wp kr kp) K ?_ ?_ ?_
    · exact ⟨zs1779, f1777, (0 : Int), hS.to [1, 0] (by kernel_rfl) ⟨rfl, rfl, rfl, trivial⟩, hV1778, hM⟩
    · intro a w hI; obtain ⟨_, _, _, _, _, hM⟩ := hI; exact hM
    · intro k1797 a w hI J1805 hJ1805
      obtain ⟨d1793, f1794, i1796, hS, hV1795, hM⟩ := hI
      rw [mortiseref07_Fixed.l3] at hM
      refine wp_seq ?_
      refine wp_seq ?_
      refine wp_region_list ?_
      refine st1 hS (mv rfl) rfl fun a w hS => ?_
      refine st1 hS (bin rfl rfl rfl) rfl fun a w hS => ?_
      refine wpList_nil ?_
      refine then_n ?_
      refine s_cond hS rfl hM (fun hb1798 hM => ?_) (fun hb1798 hM => ?_)
      · refine wp_skip ?_
        refine then_n ?_
        refine wp_seq ?_
        refine wp_block ?_
        refine wp_region_list ?_
        refine st1 hS (mv rfl) rfl fun a w hS => ?_
        refine st1 hS (mv rfl) rfl fun a w hS => ?_
        obtain ⟨hk1799, hM⟩ := wp_chk hM
        refine st1 hS (ixV rfl rfl Tryd.runUnderlying67 Tryd.sizeOf3 (hV1795.rd (i := 1) rfl) (fun _ => rfl) rfl hk1799) rfl fun a w hS => ?_
        refine stV 1 0 ((5 : Int)) hS rfl rfl hV1795 rfl Tryd.sizeOf3 (one_t3 (5 : Int)) (fun _ => rfl) hk1799 rfl rfl fun zs1802 w f1800 hz hz1803 hV1801 hS => ?_
        have hM := lt_to hz hM; clear hz
        replace hS := hS.re 4 (u := .slice A1775 d1793.length c1776) (v := .slice A1775 zs1802.length c1776) rfl (by rw [hz1803])
        replace hS := hS.re 35 (u := .slice A1775 d1793.length c1776) (v := .slice A1775 zs1802.length c1776) rfl (by rw [hz1803])
        refine wpList_nil ?_
        refine blk_n (then_n ?_)
        refine wp_region_list ?_
        refine st1 hS (mv rfl) rfl fun a w hS => ?_
        refine st1 hS (bin rfl rfl rfl) rfl fun a w hS => ?_
        refine st1x (v := Value.int .i64) hS (asg rfl) rfl fun i1804 a w hz hS => ?_
        have hM := lt_to hz hM; clear hz
        refine wpList_nil ?_
        refine then_n ?_
        exact hJ1805 _ _ ⟨zs1802, f1800, i1804, hS.to [0, 1] (by kernel_rfl) ⟨rfl, rfl, rfl, trivial⟩, hV1801, hM⟩
      · refine wp_exit ?_
        refine then_ex (then_ex (blk_same (then_n ?_)))
        refine wp_seq ?_
        refine wp_region_list ?_
        refine st1 hS (mv rfl) rfl fun a w hS => ?_
        refine st1 hS (mv rfl) rfl fun a w hS => ?_
        refine st1 hS (asg rfl) rfl fun a w hS => ?_
        refine st1 hS (asg rfl) rfl fun a w hS => ?_
        refine wpList_nil ?_
        refine then_n ?_
        refine wp_ret ?_
        exact s_ret (rs := [0, 1]) hS rfl rfl (hret A1707 c1708 l_1770 f1771 A1775 c1776 d1793 f1794 w hM hV1772 hV1795 (hS.st.pick [0, 1] (by kernel_rfl)))

theorem mortiseref06_Check_c {H : Imm} {F : List Frag} {w : World} {R : Ending → World → Prop} {kr : Int → Prop} {kp : Value → Prop} (hG : Gl H) (K : Nat) (l_1845 : List Int) (A1846 : Option Addr) (c1847 : Nat) (hr1848 : Rdl H [] F (ci .i64) A1846 l_1845) (hc1849 : l_1845.length ≤ c1847)
    (hS : St w H [] F) (hm : (mortiseref06_Check.m K l_1845).wp kr kp)
    (hret : ∀ (x1878 : Int) (w : World), kr x1878 → St w H [] F → R (.returned (.int .i64 x1878)) w) :
    Calls Tryd.prog 51 ⟨[.slice A1846 l_1845.length c1847]⟩ w R := by
  refine enter Tryd.func51 rfl Tryd.ntmps51 rfl hS fun a w hS => ?_
  have hM := hm; clear hm
  rw [mortiseref06_Check.m] at hM
  refine wp_seq ?_
  refine wp_region_list ?_
  refine st1 hS (asg rfl) rfl fun a w hS => ?_
  refine wpList_nil ?_
  refine then_n ?_
  refine wp_seq ?_
  refine wp_seq ?_
  refine wp_region_list ?_
  refine st1 hS (mv rfl) rfl fun a w hS => ?_
  refine st1 hS (lenV rfl Tryd.runUnderlying67) rfl fun a w hS => ?_
  refine st1 hS (bin rfl rfl rfl) rfl fun a w hS => ?_
  refine wpList_nil ?_
  refine then_n ?_
  refine s_cond hS rfl hM (fun hb1850 hM => ?_) (fun hb1850 hM => ?_)
  · refine wp_seq ?_
    refine wp_region_list ?_
    refine st1 hS (asg rfl) rfl fun a w hS => ?_
    refine wpList_nil ?_
    refine then_n ?_
    refine wp_ret ?_
    refine then_ret ?_
    exact s_ret (rs := [2]) hS rfl rfl (hret (1 : Int) w hM (hS.st.pick [] (by kernel_rfl)))
  · refine wp_skip ?_
    refine then_n ?_
    refine wp_seq ?_
    refine wp_region_list ?_
    refine st1 hS (asg rfl) rfl fun a w hS => ?_
    refine wpList_nil ?_
    refine then_n ?_
    refine wp_seq ?_
    refine wp_region_list ?_
    refine st1 hS (asg rfl) rfl fun a w hS => ?_
    refine wpList_nil ?_
    refine then_n ?_
    refine wp_seq ?_
    refine wp_region_list ?_
    refine st1 hS (asg rfl) rfl fun a w hS => ?_
    refine wpList_nil ?_
    refine then_n ?_
    refine seq_joinJ (fun a w => ∃ (sum1867 : Int) (n_1868 : Int) (last1869 : Int), Ss 62 [] [(3, .int .i64 sum1867), (4, .int .i64 n_1868), (5, .int .i64 last1869)] H [] F a w ∧ (mortiseref06_Check.j2 K sum1867 n_1868 last1869).wp kr kp) (fun J1870 hJ1870 => ?_) ?_
    · refine wp_seq ?_
      refine wp_region_list ?_
      refine st1 hS (asg rfl) rfl fun a w hS => ?_
      refine wpList_nil ?_
      refine then_n ?_
      refine wp_block ?_
      refine s_loopJ (fun k1855 a w => ∃ (sum1851 : Int) (n_1852 : Int) (last1853 : Int) (i1854 : Int), Ss 62 [] [(0, .slice A1846 l_1845.length c1847), (3, .int .i64 sum1851), (4, .int .i64 n_1852), (5, .int .i64 last1853), (6, .int .i64 i1854)] H [] F a w ∧ (mortiseref06_Check.l1 K l_1845 k1855 sum1851 n_1852 last1853 i1854).wp kr kp) K ?_ ?_ ?_
      · exact ⟨(0 : Int), (0 : Int), (0 : Int), (0 : Int), hS.to [] (by kernel_rfl) ⟨rfl, rfl, rfl, rfl, rfl, trivial⟩, hM⟩
      · intro a w hI; obtain ⟨_, _, _, _, _, hM⟩ := hI; exact hM
      · intro k1855 a w hI J1866 hJ1866
        obtain ⟨sum1851, n_1852, last1853, i1854, hS, hM⟩ := hI
        rw [mortiseref06_Check.l1] at hM
        refine wp_seq ?_
        refine wp_seq ?_
        refine wp_region_list ?_
        refine st1 hS (mv rfl) rfl fun a w hS => ?_
        refine st1 hS (mv rfl) rfl fun a w hS => ?_
        refine st1 hS (lenV rfl Tryd.runUnderlying67) rfl fun a w hS => ?_
        refine st1 hS (bin rfl rfl rfl) rfl fun a w hS => ?_
        refine wpList_nil ?_
        refine then_n ?_
        refine s_cond hS rfl hM (fun hb1856 hM => ?_) (fun hb1856 hM => ?_)
        · refine wp_skip ?_
          refine then_n ?_
          refine wp_seq ?_
          refine wp_block ?_
          refine wp_seq ?_
          refine wp_seq ?_
          refine wp_region_list ?_
          refine st1 hS (mv rfl) rfl fun a w hS => ?_
          refine st1 hS (mv rfl) rfl fun a w hS => ?_
          obtain ⟨hk1857, hM⟩ := wp_chk hM
          refine st1 hS (ixV rfl rfl Tryd.runUnderlying67 Tryd.sizeOf3 hr1848.wk (fun _ => rfl) rfl hk1857) rfl fun a w hS => ?_
          refine st1 hS (ldV0 rfl hr1848.wk (fun _ => rfl) hk1857 rfl Tryd.isAgg3) rfl fun a w hS => ?_
          refine st1 hS (bin rfl rfl rfl) rfl fun a w hS => ?_
          refine st1 hS (mv rfl) rfl fun a w hS => ?_
          refine g_op 5 false 21 (b := (decide ((rd l_1845 i1854) < (0 : Int)))) (r := (decide ((rd l_1845 i1854) > (15 : Int)))) hS rfl rfl rfl rfl rfl rfl rfl (fun hb a w hS K hK => ?_) rfl fun a w hS => ?_
          · refine st1g hS rfl rfl rfl hb (mv rfl) rfl fun a w hS => ?_
            refine st1g hS rfl rfl rfl hb (mv rfl) rfl fun a w hS => ?_
            refine st1g hS rfl rfl rfl hb (ixV rfl rfl Tryd.runUnderlying67 Tryd.sizeOf3 hr1848.wk (fun _ => rfl) rfl hk1857) rfl fun a w hS => ?_
            refine st1g hS rfl rfl rfl hb (ldV0 rfl hr1848.wk (fun _ => rfl) hk1857 rfl Tryd.isAgg3) rfl fun a w hS => ?_
            refine st1g hS rfl rfl rfl hb (bin rfl rfl rfl) rfl fun a w hS => ?_
            exact wpList_nil (hK _ _ (hS.up 5 rfl rfl))
          refine wpList_nil ?_
          refine then_n ?_
          refine s_cond hS rfl hM (fun hb1858 hM => ?_) (fun hb1858 hM => ?_)
          · refine wp_seq ?_
            refine wp_region_list ?_
            refine st1 hS (asg rfl) rfl fun a w hS => ?_
            refine wpList_nil ?_
            refine then_n ?_
            refine wp_ret ?_
            refine then_ret (blk_ret (then_ret (then_ret (blk_ret (then_ret ?_)))))
            exact s_ret (rs := [2]) hS rfl rfl (hret (1 : Int) w hM (hS.st.pick [] (by kernel_rfl)))
          · refine wp_skip ?_
            refine then_n ?_
            refine wp_seq ?_
            refine wp_region_list ?_
            refine st1 hS (mv rfl) rfl fun a w hS => ?_
            refine st1 hS (mv rfl) rfl fun a w hS => ?_
            refine st1 hS (ixV rfl rfl Tryd.runUnderlying67 Tryd.sizeOf3 hr1848.wk (fun _ => rfl) rfl hk1857) rfl fun a w hS => ?_
            refine st1 hS (ldV0 rfl hr1848.wk (fun _ => rfl) hk1857 rfl Tryd.isAgg3) rfl fun a w hS => ?_
            refine st1 hS (bin rfl rfl rfl) rfl fun a w hS => ?_
            refine wpList_nil ?_
            refine then_n ?_
            refine s_cond hS rfl hM (fun hb1859 hM => ?_) (fun hb1859 hM => ?_)
            · refine wp_seq ?_
              refine wp_region_list ?_
              refine st1 hS (mv rfl) rfl fun a w hS => ?_
              refine st1 hS (mv rfl) rfl fun a w hS => ?_
              refine st1 hS (mv rfl) rfl fun a w hS => ?_
              refine st1 hS (ixV rfl rfl Tryd.runUnderlying67 Tryd.sizeOf3 hr1848.wk (fun _ => rfl) rfl hk1857) rfl fun a w hS => ?_
              refine st1 hS (ldV0 rfl hr1848.wk (fun _ => rfl) hk1857 rfl Tryd.isAgg3) rfl fun a w hS => ?_
              refine st1 hS (bin rfl rfl rfl) rfl fun a w hS => ?_
              refine st1 hS (cvi rfl Tryd.runUnderlying3 Tryd.runUnderlying37) rfl fun a w hS => ?_
              obtain ⟨hk1860, hM⟩ := wp_chk hM
              refine st1 hS (shl rfl rfl hk1860) rfl fun a w hS => ?_
              refine st1 hS (bin rfl rfl rfl) rfl fun a w hS => ?_
              refine st1x (v := Value.int .i64) hS (asg rfl) rfl fun sum1861 a w hz hS => ?_
              have hM := lt_to hz hM; clear hz
              refine wpList_nil ?_
              refine then_n ?_
              refine wp_seq ?_
              refine wp_region_list ?_
              refine st1 hS (mv rfl) rfl fun a w hS => ?_
              refine st1 hS (bin rfl rfl rfl) rfl fun a w hS => ?_
              refine st1x (v := Value.int .i64) hS (asg rfl) rfl fun n_1862 a w hz hS => ?_
              have hM := lt_to hz hM; clear hz
              refine wpList_nil ?_
              refine then_n ?_
              refine wp_region_list ?_
              refine st1 hS (mv rfl) rfl fun a w hS => ?_
              refine st1 hS (mv rfl) rfl fun a w hS => ?_
              refine st1 hS (ixV rfl rfl Tryd.runUnderlying67 Tryd.sizeOf3 hr1848.wk (fun _ => rfl) rfl hk1857) rfl fun a w hS => ?_
              refine st1 hS (ldV0 rfl hr1848.wk (fun _ => rfl) hk1857 rfl Tryd.isAgg3) rfl fun a w hS => ?_
              refine st1x (v := Value.int .i64) hS (asg rfl) rfl fun last1863 a w hz hS => ?_
              have hM := lt_to hz hM; clear hz
              refine wpList_nil ?_
              refine blk_n (then_n ?_)
              refine wp_region_list ?_
              refine st1 hS (mv rfl) rfl fun a w hS => ?_
              refine st1 hS (bin rfl rfl rfl) rfl fun a w hS => ?_
              refine st1x (v := Value.int .i64) hS (asg rfl) rfl fun i1864 a w hz hS => ?_
              have hM := lt_to hz hM; clear hz
              refine wpList_nil ?_
              refine then_n ?_
              exact hJ1866 _ _ ⟨sum1861, n_1862, last1863, i1864, hS.to [] (by kernel_rfl) ⟨rfl, rfl, rfl, rfl, rfl, trivial⟩, hM⟩
            · refine wp_skip ?_
              refine blk_n (then_n ?_)
              refine wp_region_list ?_
              refine st1 hS (mv rfl) rfl fun a w hS => ?_
              refine st1 hS (bin rfl rfl rfl) rfl fun a w hS => ?_
              refine st1x (v := Value.int .i64) hS (asg rfl) rfl fun i1865 a w hz hS => ?_
              have hM := lt_to hz hM; clear hz
              refine wpList_nil ?_
              refine then_n ?_
              exact hJ1866 _ _ ⟨sum1851, n_1852, last1853, i1865, hS.to [] (by kernel_rfl) ⟨rfl, rfl, rfl, rfl, rfl, trivial⟩, hM⟩
        · refine wp_exit ?_
          refine then_ex (then_ex (blk_same (then_n ?_)))
          exact hJ1870 _ _ ⟨sum1851, n_1852, last1853, hS.to [] (by kernel_rfl) ⟨rfl, rfl, rfl, trivial⟩, hM⟩
    · intro a w hI
      obtain ⟨sum1867, n_1868, last1869, hS, hM⟩ := hI
      rw [mortiseref06_Check.j2] at hM
      refine wp_seq ?_
      refine wp_seq ?_
      refine wp_region_list ?_
      refine st1 hS (mv rfl) rfl fun a w hS => ?_
      refine st1 hS (bin rfl rfl rfl) rfl fun a w hS => ?_
      refine st1 hS (mv rfl) rfl fun a w hS => ?_
      refine seg_cutJ (fun a w => ∃ (v1875 : Bool), Ss 62 [] [(3, .int .i64 sum1867), (57, .bool v1875)] H [] F a w ∧ (mortiseref06_Check.j4 K sum1867 v1875).wp kr kp) 7 (fun J1876 hJ1876 => ?_) ?_
      · refine ifB (b := (n_1868 == (0 : Int))) hM (fun hb1871 hM => ?_) (fun hb1871 hM => ?_)
        · replace hS := hS.re 49 (v := .bool true) rfl (congrArg Value.bool hb1871)
          replace hS := hS.re 50 (v := .bool true) rfl (congrArg Value.bool hb1871)
          refine skips 6 hS rfl fun a w hS => ?_
          refine st1 hS (pk rfl rfl rfl) rfl fun a w hS => ?_
          refine wpList_nil ?_
          refine then_n ?_
          exact hJ1876 _ _ ⟨true, hS.to [] (by kernel_rfl) ⟨rfl, rfl, trivial⟩, hM⟩
        · replace hS := hS.re 49 (v := .bool false) rfl (congrArg Value.bool hb1871)
          replace hS := hS.re 50 (v := .bool false) rfl (congrArg Value.bool hb1871)
          refine st1g hS rfl rfl rfl rfl (mv rfl) rfl fun a w hS => ?_
          refine st1g hS rfl rfl rfl rfl (bin rfl rfl rfl) rfl fun a w hS => ?_
          refine st1g hS rfl rfl rfl rfl (mv rfl) rfl fun a w hS => ?_
          refine seg_cutJ (fun a w => ∃ (v1873 : Bool), Ss 62 [] [(3, .int .i64 sum1867), (50, .bool false), (56, .bool v1873)] H [] F a w ∧ (mortiseref06_Check.j3 K sum1867 v1873).wp kr kp) 3 (fun J1874 hJ1874 => ?_) ?_
          · refine ifB (b := (n_1868 == (1 : Int))) hM (fun hb1872 hM => ?_) (fun hb1872 hM => ?_)
            · replace hS := hS.re 52 (v := .bool true) rfl (congrArg Value.bool hb1872)
              replace hS := hS.re 53 (v := .bool true) rfl (congrArg Value.bool hb1872)
              refine st1g hS rfl rfl rfl rfl (mv rfl) rfl fun a w hS => ?_
              refine st1g hS rfl rfl rfl rfl (bin rfl rfl rfl) rfl fun a w hS => ?_
              refine st1g hS rfl rfl rfl rfl (pk rfl rfl rfl) rfl fun a w hS => ?_
              refine wpList_nil ?_
              refine then_n ?_
              exact hJ1874 _ _ ⟨(last1869 == (1 : Int)), hS.to [] (by kernel_rfl) ⟨rfl, rfl, rfl, trivial⟩, hM⟩
            · replace hS := hS.re 52 (v := .bool false) rfl (congrArg Value.bool hb1872)
              replace hS := hS.re 53 (v := .bool false) rfl (congrArg Value.bool hb1872)
              refine skips 2 hS rfl fun a w hS => ?_
              refine st1g hS rfl rfl rfl rfl (pk rfl rfl rfl) rfl fun a w hS => ?_
              refine wpList_nil ?_
              refine then_n ?_
              exact hJ1874 _ _ ⟨false, hS.to [] (by kernel_rfl) ⟨rfl, rfl, rfl, trivial⟩, hM⟩
          · intro a w hI
            obtain ⟨v1873, hS, hM⟩ := hI
            rw [mortiseref06_Check.j3] at hM
            refine st1 hS (pk rfl rfl rfl) rfl fun a w hS => ?_
            refine wpList_nil ?_
            refine then_n ?_
            exact hJ1876 _ _ ⟨v1873, hS.to [] (by kernel_rfl) ⟨rfl, rfl, trivial⟩, hM⟩
      · intro a w hI
        obtain ⟨v1875, hS, hM⟩ := hI
        rw [mortiseref06_Check.j4] at hM
        refine st1 hS (mv rfl) rfl fun a w hS => ?_
        refine g_op 2 false 58 (b := v1875) (r := (sum1867 == (32768 : Int))) hS rfl rfl rfl rfl rfl rfl rfl (fun hb a w hS K hK => ?_) rfl fun a w hS => ?_
        · refine st1g hS rfl rfl rfl hb (mv rfl) rfl fun a w hS => ?_
          refine st1g hS rfl rfl rfl hb (bin rfl rfl rfl) rfl fun a w hS => ?_
          exact wpList_nil (hK _ _ (hS.up 2 rfl rfl))
        refine wpList_nil ?_
        refine then_n ?_
        refine s_cond hS rfl hM (fun hb1877 hM => ?_) (fun hb1877 hM => ?_)
        · refine wp_seq ?_
          refine wp_region_list ?_
          refine st1 hS (asg rfl) rfl fun a w hS => ?_
          refine wpList_nil ?_
          refine then_n ?_
          refine wp_ret ?_
          refine then_ret ?_
          exact s_ret (rs := [2]) hS rfl rfl (hret (0 : Int) w hM (hS.st.pick [] (by kernel_rfl)))
        · refine wp_skip ?_
          refine then_n ?_
          refine wp_seq ?_
          refine wp_region_list ?_
          refine st1 hS (asg rfl) rfl fun a w hS => ?_
          refine wpList_nil ?_
          refine then_n ?_
          refine wp_ret ?_
          exact s_ret (rs := [2]) hS rfl rfl (hret (3 : Int) w hM (hS.st.pick [] (by kernel_rfl)))

theorem mortiseref06_Codes_c {H : Imm} {F : List Frag} {w : World} {R : Ending → World → Prop} {kr : ((List Int) × Int) → Prop} {kp : Value → Prop} (hG : Gl H) (K : Nat) (l_1838 : List Int) (A1839 : Option Addr) (c1840 : Nat) (hr1841 : Rdl H [] F (ci .i64) A1839 l_1838) (hc1842 : l_1838.length ≤ c1840)
    (hS : St w H [] F) (hm : (mortiseref06_Codes.m K l_1838).wp kr kp)
    (hret : ∀ (A1986 : Option Addr) (c1987 : Nat) (x1988 : (List Int)) (f1989 : Frag) (x1991 : Int) (w : World), kr (x1988, x1991) → (Vec 3 (ci .i64) 1 A1986 x1988 c1987 f1989) → St w H [f1989] F → R (.returned (.tuple ⟨[.slice A1986 x1988.length c1987, .int .i64 x1991]⟩)) w) :
    Calls Tryd.prog 42 ⟨[.slice A1839 l_1838.length c1840]⟩ w R := by
  refine enter Tryd.func42 rfl Tryd.ntmps42 rfl hS fun a w hS => ?_
  have hM := hm; clear hm
  rw [mortiseref06_Codes.m] at hM
  refine wp_seq ?_
  refine wp_region_list ?_
  refine st1 hS (asg rfl) rfl fun a w hS => ?_
  obtain ⟨f1843, hV1844, hS⟩ := hS.nilV 3 (ci .i64) 1
  refine st1 hS (asg rfl) rfl fun a w hS => ?_
  refine wpList_nil ?_
  refine then_n ?_
  refine wp_seq ?_
  refine wp_region_list ?_
  refine st1 hS (mv rfl) rfl fun a w hS => ?_
  refine s_call hS rfl Tryd.call51 (mortiseref06_Check_c hG K l_1838 A1839 c1840 (hr1841.app _) hc1842 (hS.st.part 0 [0] (by kernel_rfl)) (wp_bind hM) (fun x1879 w hM  hst => s_back hS.ev hst.appF rfl fun hS => ?_))
  replace hS : Ss _ _ _ H [f1843] F _ _ := hS
  refine st1 hS (asg rfl) rfl fun a w hS => ?_
  refine wpList_nil ?_
  refine then_n ?_
  refine wp_seq ?_
  refine wp_seq ?_
  refine wp_region_list ?_
  refine st1 hS (mv rfl) rfl fun a w hS => ?_
  refine st1 hS (bin rfl rfl rfl) rfl fun a w hS => ?_
  refine wpList_nil ?_
  refine then_n ?_
  refine s_cond hS rfl hM (fun hb1880 hM => ?_) (fun hb1880 hM => ?_)
  · refine wp_seq ?_
    refine wp_region_list ?_
    refine st1 hS (mv rfl) rfl fun a w hS => ?_
    refine st1 hS (asg rfl) rfl fun a w hS => ?_
    obtain ⟨f1881, hV1882, hS⟩ := hS.nilV 3 (ci .i64) 1
    refine st1 hS (asg rfl) rfl fun a w hS => ?_
    refine wpList_nil ?_
    refine then_n ?_
    refine wp_ret ?_
    refine then_ret ?_
    exact s_ret (rs := [2, 3]) hS rfl rfl (hret none (0) ([] : List Int) f1881 x1879 w hM hV1882 (hS.st.pick [0] (by kernel_rfl)))
  · refine wp_skip ?_
    refine then_n ?_
    refine wp_seq ?_
    refine wp_region_list ?_
    refine st1 hS (mv rfl) rfl fun a w hS => ?_
    refine st1 hS (lenV rfl Tryd.runUnderlying67) rfl fun a w hS => ?_
    obtain ⟨hk1883, hM⟩ := wp_chk hM
    refine mkS (g := (ci .i64)) (0 : Int) hS rfl rfl (by simp) Tryd.runUnderlying67 X.el3 (fun w => ⟨_, Tryd.zeroValue3 w, rfl⟩) (fun _ => rfl) rfl rfl hk1883 rfl fun zs1888 w A1884 c1885 f1886 hz hV1887 hS => ?_
    have hM := lt_to hz hM; clear hz
    refine st1 hS (asg rfl) rfl fun a w hS => ?_
    refine wpList_nil ?_
    refine then_n ?_
    refine wp_seq ?_
    refine wp_region_list ?_
    refine st1 hS (asg rfl) rfl fun a w hS => ?_
    refine wpList_nil ?_
    refine then_n ?_
    refine wp_seq ?_
    refine wp_seq ?_
    refine wp_region_list ?_
    refine st1 hS (asg rfl) rfl fun a w hS => ?_
    refine wpList_nil ?_
    refine then_n ?_
    refine wp_block ?_
    refine s_loopJ (fun k1943 a w => ∃ (out1938 : (List Int)) (f1939 : Frag) (code1941 : Int) (length1942 : Int), Ss 42 [] [(0, .slice A1839 l_1838.length c1840), (5, .slice A1884 out1938.length c1885), (6, .int .i64 code1941), (7, .int .i64 length1942)] H [f1939] F a w ∧ (Vec 3 (ci .i64) 1 A1884 out1938 c1885 f1939) ∧ (mortiseref06_Codes.l1 K l_1838 k1943 out1938 code1941 length1942).wp kr kp) K ?_ ?_ ?_
    · exact ⟨zs1888, f1886, (0 : Int), (1 : Int), hS.to [0] (by kernel_rfl) ⟨rfl, rfl, rfl, rfl, trivial⟩, hV1887, hM⟩
    · intro a w hI; obtain ⟨_, _, _, _, _, _, hM⟩ := hI; exact hM
    · intro k1943 a w hI J1985 hJ1985
      obtain ⟨out1938, f1939, code1941, length1942, hS, hV1940, hM⟩ := hI
      rw [mortiseref06_Codes.l1] at hM
      refine wp_seq ?_
      refine wp_seq ?_
      refine wp_region_list ?_
      refine st1 hS (mv rfl) rfl fun a w hS => ?_
      refine st1 hS (bin rfl rfl rfl) rfl fun a w hS => ?_
      refine wpList_nil ?_
      refine then_n ?_
      refine s_cond hS rfl hM (fun hb1944 hM => ?_) (fun hb1944 hM => ?_)
      · refine wp_skip ?_
        refine then_n ?_
        refine wp_seq ?_
        refine wp_block ?_
        refine wp_seq ?_
        refine wp_region_list ?_
        refine st1 hS (mv rfl) rfl fun a w hS => ?_
        refine st1 hS (bin rfl rfl rfl) rfl fun a w hS => ?_
        refine st1x (v := Value.int .i64) hS (asg rfl) rfl fun code1945 a w hz hS => ?_
        have hM := lt_to hz hM; clear hz
        refine wpList_nil ?_
        refine then_n ?_
        refine wp_seq ?_
        refine wp_region_list ?_
        refine st1 hS (asg rfl) rfl fun a w hS => ?_
        refine wpList_nil ?_
        refine then_n ?_
        refine wp_block ?_
        refine s_loopJ (fun k1971 a w => ∃ (out1966 : (List Int)) (f1967 : Frag) (code1969 : Int) (i1970 : Int), Ss 42 [] [(0, .slice A1839 l_1838.length c1840), (5, .slice A1884 out1966.length c1885), (6, .int .i64 code1969), (7, .int .i64 length1942), (8, .int .i64 i1970)] H [f1967] F a w ∧ (Vec 3 (ci .i64) 1 A1884 out1966 c1885 f1967) ∧ (mortiseref06_Codes.l2 K (mortiseref06_Codes.l1 K l_1838 k1943) l_1838 length1942 k1971 out1966 code1969 i1970).wp kr kp) K ?_ ?_ ?_
        · exact ⟨out1938, f1939, code1945, (0 : Int), hS.to [0] (by kernel_rfl) ⟨rfl, rfl, rfl, rfl, rfl, trivial⟩, hV1940, hM⟩
        · intro a w hI; obtain ⟨_, _, _, _, _, _, hM⟩ := hI; exact hM
        · intro k1971 a w hI J1984 hJ1984
          obtain ⟨out1966, f1967, code1969, i1970, hS, hV1968, hM⟩ := hI
          rw [mortiseref06_Codes.l2] at hM
          refine wp_seq ?_
          refine wp_seq ?_
          refine wp_region_list ?_
          refine st1 hS (mv rfl) rfl fun a w hS => ?_
          refine st1 hS (mv rfl) rfl fun a w hS => ?_
          refine st1 hS (lenV rfl Tryd.runUnderlying67) rfl fun a w hS => ?_
          refine st1 hS (bin rfl rfl rfl) rfl fun a w hS => ?_
          refine wpList_nil ?_
          refine then_n ?_
          refine s_cond hS rfl hM (fun hb1972 hM => ?_) (fun hb1972 hM => ?_)
          · refine wp_skip ?_
            refine then_n ?_
            refine wp_seq ?_
            refine wp_block ?_
            refine wp_seq ?_
            refine wp_region_list ?_
            refine st1 hS (mv rfl) rfl fun a w hS => ?_
            refine st1 hS (mv rfl) rfl fun a w hS => ?_
            obtain ⟨hk1974, hM⟩ := wp_chk hM
            refine st1 hS (ixV rfl rfl Tryd.runUnderlying67 Tryd.sizeOf3 hr1841.wk (fun _ => rfl) rfl hk1974) rfl fun a w hS => ?_
            refine st1 hS (ldV0 rfl hr1841.wk (fun _ => rfl) hk1974 rfl Tryd.isAgg3) rfl fun a w hS => ?_
            refine st1 hS (mv rfl) rfl fun a w hS => ?_
            refine st1 hS (bin rfl rfl rfl) rfl fun a w hS => ?_
            refine wpList_nil ?_
            refine then_n ?_
            refine s_cond hS rfl hM (fun hb1975 hM => ?_) (fun hb1975 hM => ?_)
            · refine wp_seq ?_
              refine wp_region_list ?_
              refine st1 hS (mv rfl) rfl fun a w hS => ?_
              refine st1 hS (mv rfl) rfl fun a w hS => ?_
              refine st1 hS (mv rfl) rfl fun a w hS => ?_
              obtain ⟨hk1976, hM⟩ := wp_chk hM
              refine st1 hS (ixV rfl rfl Tryd.runUnderlying67 Tryd.sizeOf3 (hV1968.rd (i := 0) rfl) (fun _ => rfl) rfl hk1976) rfl fun a w hS => ?_
              refine stV 0 0 (code1969) hS rfl rfl hV1968 rfl Tryd.sizeOf3 (one_t3 code1969) (fun _ => rfl) hk1976 rfl rfl fun zs1979 w f1977 hz hz1980 hV1978 hS => ?_
              have hM := lt_to hz hM; clear hz
              replace hS := hS.re 5 (u := .slice A1884 out1966.length c1885) (v := .slice A1884 zs1979.length c1885) rfl (by rw [hz1980])
              replace hS := hS.re 35 (u := .slice A1884 out1966.length c1885) (v := .slice A1884 zs1979.length c1885) rfl (by rw [hz1980])
              refine wpList_nil ?_
              refine then_n ?_
              refine wp_region_list ?_
              refine st1 hS (mv rfl) rfl fun a w hS => ?_
              refine st1 hS (bin rfl rfl rfl) rfl fun a w hS => ?_
              refine st1x (v := Value.int .i64) hS (asg rfl) rfl fun code1981 a w hz hS => ?_
              have hM := lt_to hz hM; clear hz
              refine wpList_nil ?_
              refine blk_n (then_n ?_)
              refine wp_region_list ?_
              refine st1 hS (mv rfl) rfl fun a w hS => ?_
              refine st1 hS (bin rfl rfl rfl) rfl fun a w hS => ?_
              refine st1x (v := Value.int .i64) hS (asg rfl) rfl fun i1982 a w hz hS => ?_
              have hM := lt_to hz hM; clear hz
              refine wpList_nil ?_
              refine then_n ?_
              exact hJ1984 _ _ ⟨zs1979, f1977, code1981, i1982, hS.to [0] (by kernel_rfl) ⟨rfl, rfl, rfl, rfl, rfl, trivial⟩, hV1978, hM⟩
            · refine wp_skip ?_
              refine blk_n (then_n ?_)
              refine wp_region_list ?_
              refine st1 hS (mv rfl) rfl fun a w hS => ?_
              refine st1 hS (bin rfl rfl rfl) rfl fun a w hS => ?_
              refine st1x (v := Value.int .i64) hS (asg rfl) rfl fun i1983 a w hz hS => ?_
              have hM := lt_to hz hM; clear hz
              refine wpList_nil ?_
              refine then_n ?_
              exact hJ1984 _ _ ⟨out1966, f1967, code1969, i1983, hS.to [0] (by kernel_rfl) ⟨rfl, rfl, rfl, rfl, rfl, trivial⟩, hV1968, hM⟩
          · refine wp_exit ?_
            refine then_ex (then_ex (blk_same (blk_n (then_n ?_))))
            refine wp_region_list ?_
            refine st1 hS (mv rfl) rfl fun a w hS => ?_
            refine st1 hS (bin rfl rfl rfl) rfl fun a w hS => ?_
            refine st1x (v := Value.int .i64) hS (asg rfl) rfl fun length1973 a w hz hS => ?_
            have hM := lt_to hz hM; clear hz
            refine wpList_nil ?_
            refine then_n ?_
            exact hJ1985 _ _ ⟨out1966, f1967, code1969, length1973, hS.to [0] (by kernel_rfl) ⟨rfl, rfl, rfl, rfl, trivial⟩, hV1968, hM⟩
      · refine wp_exit ?_
        refine then_ex (then_ex (blk_same (then_n ?_)))
        refine wp_seq ?_
        refine wp_region_list ?_
        refine st1 hS (mv rfl) rfl fun a w hS => ?_
        refine st1 hS (asg rfl) rfl fun a w hS => ?_
        refine st1 hS (asg rfl) rfl fun a w hS => ?_
        refine wpList_nil ?_
        refine then_n ?_
        refine wp_ret ?_
        exact s_ret (rs := [2, 3]) hS rfl rfl (hret A1884 c1885 out1938 f1939 (0 : Int) w hM hV1940 (hS.st.pick [0] (by kernel_rfl)))

theorem mortiseref07_coded_c {H : Imm} {F : List Frag} {w : World} {R : Ending → World → Prop} {kr : ((List Int) × Bool) → Prop} {kp : Value → Prop} (hG : Gl H) (K : Nat) (l_1826 : List Int) (A1827 : Option Addr) (c1828 : Nat) (hr1829 : Rdl H [] F (ci .i64) A1827 l_1826) (hc1830 : l_1826.length ≤ c1828)
    (hS : St w H [] F) (hm : (mortiseref07_coded.m K l_1826).wp kr kp)
    (hret : ∀ (A2001 : Option Addr) (c2002 : Nat) (codes2003 : (List Int)) (f2004 : Frag) (x2006 : Bool) (w : World), kr (codes2003, x2006) → (Vec 3 (ci .i64) 1 A2001 codes2003 c2002 f2004) → St w H [f2004] F → R (.returned (.tuple ⟨[.agg ⟨[.slice A1827 l_1826.length c1828, .slice A2001 codes2003.length c2002]⟩, .bool x2006]⟩)) w) :
    Calls Tryd.prog 30 ⟨[.slice A1827 l_1826.length c1828]⟩ w R := by
  refine enter Tryd.func30 rfl Tryd.ntmps30 rfl hS fun a w hS => ?_
  have hM := hm; clear hm
  rw [mortiseref07_coded.m] at hM
  refine wp_seq ?_
  refine wp_region_list ?_
  refine alc ([.slice none 0 0, .slice none 0 0]) hS Tryd.zeroValue71 rfl rfl fun w b1831 f1832 hB1833 hS => ?_
  obtain ⟨f1834, hV1835, hS⟩ := hS.nilV 3 (ci .i64) 1
  obtain ⟨f1836, hV1837, hS⟩ := hS.nilV 3 (ci .i64) 1
  refine st1 hS (asg rfl) rfl fun a w hS => ?_
  refine wpList_nil ?_
  refine then_n ?_
  refine wp_seq ?_
  refine wp_region_list ?_
  refine st1 hS (mv rfl) rfl fun a w hS => ?_
  refine s_call hS rfl Tryd.call42 (mortiseref06_Codes_c hG K l_1826 A1827 c1828 (hr1829.app _) hc1830 (hS.st.part 0 [0, 1, 2] (by kernel_rfl)) (wp_bind hM) (fun A1992 c1993 x1994 f1995 x1996 w hM h1997 hst => s_back hS.ev hst.appF rfl fun hS => ?_))
  replace hS : Ss _ _ _ H [f1995, f1836, f1834, f1832] F _ _ := hS
  refine st1 hS (mv rfl) rfl fun a w hS => ?_
  refine st1 hS (ex rfl rfl) rfl fun a w hS => ?_
  refine st1 hS (ex rfl rfl) rfl fun a w hS => ?_
  refine st1 hS (asg rfl) rfl fun a w hS => ?_
  refine st1 hS (asg rfl) rfl fun a w hS => ?_
  refine wpList_nil ?_
  refine then_n ?_
  refine wp_seq ?_
  refine wp_region_list ?_
  refine st1 hS (mv rfl) rfl fun a w hS => ?_
  refine st1 hS (mv rfl) rfl fun a w hS => ?_
  refine st1 hS (bld ([.slice A1827 l_1826.length c1828, .slice A1992 x1994.length c1993]) [(0, 1), (1, 1)] Tryd.zeroValue71 Tryd.runUnderlying71 (by intro w; simp [Tryd.sizeOf67]) rfl rfl) rfl fun a w hS => ?_
  refine st1 hS (mv rfl) rfl fun a w hS => ?_
  refine st1 hS (bin rfl rfl rfl) rfl fun a w hS => ?_
  refine stB 3 ([.slice A1827 l_1826.length c1828, .slice A1992 x1994.length c1993]) ([.slice A1827 l_1826.length c1828, .slice A1992 x1994.length c1993]) hS rfl rfl hB1833 rfl rfl Tryd.sizeOf71 (by simp [Value.oneCell']) (Nat.le_of_ble_eq_true rfl) rfl fun w f1998 hB1999 hS => ?_
  refine st1x (v := Value.bool) hS (asg rfl) rfl fun v2000 a w hz hS => ?_
  have hM := lt_to hz hM; clear hz
  refine wpList_nil ?_
  refine then_n ?_
  refine wp_ret ?_
  exact s_retC (vs := [.agg ⟨[.slice A1827 l_1826.length c1828, .slice A1992 x1994.length c1993]⟩, .bool v2000]) hS rfl (by exact ⟨rvA 3 ([.slice A1827 l_1826.length c1828, .slice A1992 x1994.length c1993]) rfl hB1999 rfl rfl rfl Tryd.isAgg71 Tryd.sizeOf71, rvT rfl, trivial⟩) (hret A1992 c1993 x1994 f1995 v2000 w hM h1997 (hS.st.pick [0] (by kernel_rfl)))

theorem mortiseref06_Next_c {H : Imm} {F : List Frag} {w : World} {R : Ending → World → Prop} {kr : (Int × Int × Int) → Prop} {kp : Value → Prop} (hG : Gl H) (K : Nat) (l_2073 : List Int) (codes2078 : List Int) (r2083 : T_mortiseref05_Reader) (A2074 : Option Addr) (c2075 : Nat) (A2079 : Option Addr) (c2080 : Nat) (b2084 : Nat) (f2085 : Frag) (hr2076 : Rdl H [] F (ci .i64) A2074 l_2073) (hc2077 : l_2073.length ≤ c2075) (hr2081 : Rdl H [] F (ci .i64) A2079 codes2078) (hc2082 : codes2078.length ≤ c2080) (hB2086 : Blk f2085 b2084 ([str r2083.S_, .int .i64 r2083.At_]) 49)
    (hS : St w H [f2085] F) (hm : (mortiseref06_Next.m K l_2073 codes2078 r2083).wp kr kp)
    (hret : ∀ (x2182 : Int) (x2183 : Int) (at_2184 : Int) (f2185 : Frag) (w : World), kr (x2182, x2183, at_2184) → (Blk f2185 b2084 ([str r2083.S_, .int .i64 at_2184]) 49) → St w H [f2185] F → R (.returned (.tuple ⟨[.int .i64 x2182, .int .i64 x2183]⟩)) w) :
    Calls Tryd.prog 43 ⟨[.slice A2074 l_2073.length c2075, .slice A2079 codes2078.length c2080, ptr b2084 0]⟩ w R := by
  refine enter Tryd.func43 rfl Tryd.ntmps43 rfl hS fun a w hS => ?_
  have hM := hm; clear hm
  rw [mortiseref06_Next.m] at hM
  refine wp_seq ?_
  refine wp_region_list ?_
  refine st1 hS (asg rfl) rfl fun a w hS => ?_
  refine st1 hS (asg rfl) rfl fun a w hS => ?_
  refine wpList_nil ?_
  refine then_n ?_
  refine wp_seq ?_
  refine wp_region_list ?_
  refine st1 hS (mv rfl) rfl fun a w hS => ?_
  refine st1 hS (nck rfl) rfl fun a w hS => ?_
  refine st1 hS (fad rfl Tryd.runUnderlying49 rfl Tryd.sizeOf3 rfl) rfl fun a w hS => ?_
  refine st1 hS (ldb 0 rfl hB2086 rfl rfl Tryd.isAgg3) rfl fun a w hS => ?_
  refine st1 hS (asg rfl) rfl fun a w hS => ?_
  refine wpList_nil ?_
  refine then_n ?_
  refine wp_seq ?_
  refine wp_region_list ?_
  refine st1 hS (asg rfl) rfl fun a w hS => ?_
  refine wpList_nil ?_
  refine then_n ?_
  refine seq_joinJ (fun a w => ∃ (at_2176 : Int) (f2177 : Frag), Ss 100 [] [(2, ptr b2084 0), (8, .int .i64 r2083.At_)] H [f2177] F a w ∧ (Blk f2177 b2084 ([str r2083.S_, .int .i64 at_2176]) 49) ∧ (mortiseref06_Next.j4 K r2083 at_2176).wp kr kp) (fun J2179 hJ2179 => ?_) ?_
  · refine wp_seq ?_
    refine wp_region_list ?_
    refine st1 hS (asg rfl) rfl fun a w hS => ?_
    refine wpList_nil ?_
    refine then_n ?_
    refine wp_block ?_
    refine s_loopJ (fun k2137 a w => ∃ (at_2132 : Int) (f2133 : Frag) (v2135 : Int) (length2136 : Int), Ss 100 [] [(0, .slice A2074 l_2073.length c2075), (1, .slice A2079 codes2078.length c2080), (2, ptr b2084 0), (8, .int .i64 r2083.At_), (9, .int .i64 v2135), (10, .int .i64 length2136)] H [f2133] F a w ∧ (Blk f2133 b2084 ([str r2083.S_, .int .i64 at_2132]) 49) ∧ (mortiseref06_Next.l1 K l_2073 codes2078 r2083 k2137 at_2132 v2135 length2136).wp kr kp) K ?_ ?_ ?_
    · exact ⟨r2083.At_, f2085, (0 : Int), (0 : Int), hS.to [0] (by kernel_rfl) ⟨rfl, rfl, rfl, rfl, rfl, rfl, trivial⟩, hB2086, hM⟩
    · intro a w hI; obtain ⟨_, _, _, _, _, _, hM⟩ := hI; exact hM
    · intro k2137 a w hI J2175 hJ2175
      obtain ⟨at_2132, f2133, v2135, length2136, hS, hB2134, hM⟩ := hI
      rw [mortiseref06_Next.l1] at hM
      refine wp_seq ?_
      refine wp_seq ?_
      refine wp_region_list ?_
      refine st1 hS (mv rfl) rfl fun a w hS => ?_
      refine st1 hS (bin rfl rfl rfl) rfl fun a w hS => ?_
      refine wpList_nil ?_
      refine then_n ?_
      refine s_cond hS rfl hM (fun hb2138 hM => ?_) (fun hb2138 hM => ?_)
      · refine wp_skip ?_
        refine then_n ?_
        refine wp_seq ?_
        refine wp_block ?_
        refine wp_seq ?_
        refine wp_region_list ?_
        refine st1 hS (asg rfl) rfl fun a w hS => ?_
        refine wpList_nil ?_
        refine then_n ?_
        refine seq_joinJ (fun a w => ∃ (begins2160 : Bool), Ss 100 [] [(0, .slice A2074 l_2073.length c2075), (1, .slice A2079 codes2078.length c2080), (2, ptr b2084 0), (8, .int .i64 r2083.At_), (9, .int .i64 v2135), (10, .int .i64 length2136), (11, .bool begins2160)] H [f2133] F a w ∧ (mortiseref06_Next.j3 K (mortiseref06_Next.l1 K l_2073 codes2078 r2083 k2137) r2083 at_2132 v2135 length2136 begins2160).wp kr kp) (fun J2161 hJ2161 => ?_) ?_
        · refine wp_seq ?_
          refine wp_region_list ?_
          refine st1 hS (asg rfl) rfl fun a w hS => ?_
          refine wpList_nil ?_
          refine then_n ?_
          refine wp_block ?_
          refine s_loopJ (fun k2141 a w => ∃ (begins2139 : Bool) (i2140 : Int), Ss 100 [] [(0, .slice A2074 l_2073.length c2075), (1, .slice A2079 codes2078.length c2080), (2, ptr b2084 0), (8, .int .i64 r2083.At_), (9, .int .i64 v2135), (10, .int .i64 length2136), (11, .bool begins2139), (12, .int .i64 i2140)] H [f2133] F a w ∧ (mortiseref06_Next.l2 K (mortiseref06_Next.l1 K l_2073 codes2078 r2083 k2137) l_2073 codes2078 r2083 at_2132 v2135 length2136 k2141 begins2139 i2140).wp kr kp) K ?_ ?_ ?_
          · exact ⟨false, (0 : Int), hS.to [0] (by kernel_rfl) ⟨rfl, rfl, rfl, rfl, rfl, rfl, rfl, rfl, trivial⟩, hM⟩
          · intro a w hI; obtain ⟨_, _, _, hM⟩ := hI; exact hM
          · intro k2141 a w hI J2159 hJ2159
            obtain ⟨begins2139, i2140, hS, hM⟩ := hI
            rw [mortiseref06_Next.l2] at hM
            refine wp_seq ?_
            refine wp_seq ?_
            refine wp_region_list ?_
            refine st1 hS (mv rfl) rfl fun a w hS => ?_
            refine st1 hS (mv rfl) rfl fun a w hS => ?_
            refine st1 hS (lenV rfl Tryd.runUnderlying67) rfl fun a w hS => ?_
            refine st1 hS (bin rfl rfl rfl) rfl fun a w hS => ?_
            refine wpList_nil ?_
            refine then_n ?_
            refine s_cond hS rfl hM (fun hb2142 hM => ?_) (fun hb2142 hM => ?_)
            · refine wp_skip ?_
              refine then_n ?_
              refine wp_seq ?_
              refine wp_block ?_
              refine wp_seq ?_
              refine wp_seq ?_
              refine wp_region_list ?_
              refine st1 hS (mv rfl) rfl fun a w hS => ?_
              refine st1 hS (mv rfl) rfl fun a w hS => ?_
              obtain ⟨hk2143, hM⟩ := wp_chk hM
              refine st1 hS (ixV rfl rfl Tryd.runUnderlying67 Tryd.sizeOf3 hr2076.wk (fun _ => rfl) rfl hk2143) rfl fun a w hS => ?_
              refine st1 hS (ldV0 rfl hr2076.wk (fun _ => rfl) hk2143 rfl Tryd.isAgg3) rfl fun a w hS => ?_
              refine st1 hS (mv rfl) rfl fun a w hS => ?_
              refine st1 hS (bin rfl rfl rfl) rfl fun a w hS => ?_
              refine st1 hS (mv rfl) rfl fun a w hS => ?_
              refine g_op 2 true 35 (b := ((rd l_2073 i2140) == length2136)) (r := (decide (length2136 > (0 : Int)))) hS rfl rfl rfl rfl rfl rfl rfl (fun hb a w hS K hK => ?_) rfl fun a w hS => ?_
              · refine st1g hS rfl rfl rfl hb (mv rfl) rfl fun a w hS => ?_
                refine st1g hS rfl rfl rfl hb (bin rfl rfl rfl) rfl fun a w hS => ?_
                exact wpList_nil (hK _ _ (hS.up 2 rfl rfl))
              refine st1 hS (mv rfl) rfl fun a w hS => ?_
              obtain ⟨hk2146, hM⟩ := wp_chk hM
              refine g_op 6 true 39 (b := (((rd l_2073 i2140) == length2136) && (decide (length2136 > (0 : Int))))) (r := ((rd codes2078 i2140) == v2135)) hS rfl rfl rfl rfl rfl rfl rfl (fun hb a w hS K hK => ?_) rfl fun a w hS => ?_
              · refine st1g hS rfl rfl rfl hb (mv rfl) rfl fun a w hS => ?_
                refine st1g hS rfl rfl rfl hb (mv rfl) rfl fun a w hS => ?_
                have hk2145 := imp_of hk2146 hb
                refine st1g hS rfl rfl rfl hb (ixV rfl rfl Tryd.runUnderlying67 Tryd.sizeOf3 hr2081.wk (fun _ => rfl) rfl hk2145) rfl fun a w hS => ?_
                refine st1g hS rfl rfl rfl hb (ldV0 rfl hr2081.wk (fun _ => rfl) hk2145 rfl Tryd.isAgg3) rfl fun a w hS => ?_
                refine st1g hS rfl rfl rfl hb (mv rfl) rfl fun a w hS => ?_
                refine st1g hS rfl rfl rfl hb (bin rfl rfl rfl) rfl fun a w hS => ?_
                exact wpList_nil (hK _ _ (hS.up 6 rfl rfl))
              refine wpList_nil ?_
              refine then_n ?_
              refine s_cond hS rfl hM (fun hb2147 hM => ?_) (fun hb2147 hM => ?_)
              · refine wp_seq ?_
                refine wp_region_list ?_
                refine st1 hS (mv rfl) rfl fun a w hS => ?_
                refine st1 hS (asg rfl) rfl fun a w hS => ?_
                refine st1 hS (asg rfl) rfl fun a w hS => ?_
                refine wpList_nil ?_
                refine then_n ?_
                refine wp_ret ?_
                refine then_ret (blk_ret (then_ret (then_ret (blk_ret (then_ret (blk_ret (then_ret (then_ret (blk_ret (then_ret ?_))))))))))
                exact s_ret (rs := [6, 7]) hS rfl rfl (hret i2140 (0 : Int) at_2132 f2133 w hM hB2134 (hS.st.pick [0] (by kernel_rfl)))
              · refine wp_skip ?_
                refine then_n ?_
                refine ifB (b := begins2139) hM (fun hb2148 hM => ?_) (fun hb2148 hM => ?_)
                · refine draw_begin (vals := [some (.bool true), some (.bool true), some (undef), some (undef), some (undef), some (undef), some (undef), some (undef), some (undef), some (undef), some (undef), some (undef), some (undef), some (undef), some (undef), some (undef), some (undef), some (undef), some (undef), some (undef), some (undef), some (undef), some (undef), some (undef), some (.bool true), some (.bool true)]) hS mixed rfl ?_
                  intro l w ho hcl hA hst
                  refine phaseE (vals := [some (.bool true), some (.bool true), some (undef), some (undef), some (undef), some (undef), some (undef), some (undef), some (undef), some (undef), some (undef), some (undef), some (undef), some (undef), some (undef), some (undef), some (undef), some (undef), some (undef), some (undef), some (undef), some (undef), some (undef), some (undef), some (.bool true), some (.bool true)]) [] [0, 1, 2, 3, 4, 5, 6, 7, 8, 9, 10, 11, 12, 13, 14, 15, 16, 17, 18, 19, 20, 21, 22, 23, 24, 25] rfl rfl rfl (by exact ⟨nR rfl rfl rfl rfl rfl (by exact ovE (mv rfl) (congrArg Value.bool hb2148)), nR rfl rfl rfl rfl rfl (by exact ovE (mv rfl) rfl), nS rfl rfl rfl rfl rfl rfl rfl rfl rfl, nS rfl rfl rfl rfl rfl rfl rfl rfl rfl, nS rfl rfl rfl rfl rfl rfl rfl rfl rfl, nS rfl rfl rfl rfl rfl rfl rfl rfl rfl, nS rfl rfl rfl rfl rfl rfl rfl rfl rfl, nS rfl rfl rfl rfl rfl rfl rfl rfl rfl, nS rfl rfl rfl rfl rfl rfl rfl rfl rfl, nS rfl rfl rfl rfl rfl rfl rfl rfl rfl, nS rfl rfl rfl rfl rfl rfl rfl rfl rfl, nS rfl rfl rfl rfl rfl rfl rfl rfl rfl, nS rfl rfl rfl rfl rfl rfl rfl rfl rfl, nS rfl rfl rfl rfl rfl rfl rfl rfl rfl, nS rfl rfl rfl rfl rfl rfl rfl rfl rfl, nS rfl rfl rfl rfl rfl rfl rfl rfl rfl, nS rfl rfl rfl rfl rfl rfl rfl rfl rfl, nS rfl rfl rfl rfl rfl rfl rfl rfl rfl, nS rfl rfl rfl rfl rfl rfl rfl rfl rfl, nS rfl rfl rfl rfl rfl rfl rfl rfl rfl, nS rfl rfl rfl rfl rfl rfl rfl rfl rfl, nS rfl rfl rfl rfl rfl rfl rfl rfl rfl, nS rfl rfl rfl rfl rfl rfl rfl rfl rfl, nS rfl rfl rfl rfl rfl rfl rfl rfl rfl, nR rfl rfl rfl rfl rfl (by exact ovE (pk rfl rfl rfl) rfl), nR rfl rfl rfl rfl rfl (by exact ovE (asg rfl) rfl), trivial⟩) (fun a w hS => ?_) ho hcl (fun m hm => (List.not_mem_nil hm).elim) hA hst
                  replace hS := hS.env2 (e' := [(0, .slice A2074 l_2073.length c2075), (1, .slice A2079 codes2078.length c2080), (2, ptr b2084 0), (8, .int .i64 r2083.At_), (9, .int .i64 v2135), (10, .int .i64 length2136), (11, .bool true), (12, .int .i64 i2140)]) ⟨rfl, rfl, rfl, rfl, rfl, rfl, rfl, rfl, trivial⟩
                  refine blk_n (then_n ?_)
                  refine wp_region_list ?_
                  refine st1 hS (mv rfl) rfl fun a w hS => ?_
                  refine st1 hS (bin rfl rfl rfl) rfl fun a w hS => ?_
                  refine st1x (v := Value.int .i64) hS (asg rfl) rfl fun i2149 a w hz hS => ?_
                  have hM := lt_to hz hM; clear hz
                  refine wpList_nil ?_
                  refine then_n ?_
                  exact hJ2159 _ _ ⟨true, i2149, hS.to [0] (by kernel_rfl) ⟨rfl, rfl, rfl, rfl, rfl, rfl, rfl, rfl, trivial⟩, hM⟩
                · refine ifB (b := (decide ((rd l_2073 i2140) > length2136))) hM (fun hb2150 hM => ?_) (fun hb2150 hM => ?_)
                  · obtain ⟨hk2152, hM⟩ := wp_chk hM
                    obtain ⟨hk2154, hM⟩ := wp_chk hM
                    obtain ⟨begins2155, hz2156⟩ : ∃ x, x = ((ishr .i64 (rd codes2078 i2140) (wr .u64 (w64 ((rd l_2073 i2140) - length2136)))) == v2135) := ⟨_, rfl⟩
                    replace hM := lt_to hz2156 hM
                    refine draw_begin (vals := [some (.bool false), some (.bool false), some (.slice A2074 l_2073.length c2075), some (.int .i64 i2140), some (slp A2074 (Int.toNat i2140 * 1)), some (.int .i64 (rd l_2073 i2140)), some (.int .i64 length2136), some (.bool true), some (.bool true), some (.slice A2079 codes2078.length c2080), some (.int .i64 i2140), some (slp A2079 (Int.toNat i2140 * 1)), some (.int .i64 (rd codes2078 i2140)), some (.slice A2074 l_2073.length c2075), some (.int .i64 i2140), some (slp A2074 (Int.toNat i2140 * 1)), some (.int .i64 (rd l_2073 i2140)), some (.int .i64 length2136), some (.int .i64 (w64 ((rd l_2073 i2140) - length2136))), some (.int .u64 (wr .u64 (w64 ((rd l_2073 i2140) - length2136)))), some (.int .i64 (ishr .i64 (rd codes2078 i2140) (wr .u64 (w64 ((rd l_2073 i2140) - length2136))))), some (.int .i64 v2135), some (.bool ((ishr .i64 (rd codes2078 i2140) (wr .u64 (w64 ((rd l_2073 i2140) - length2136)))) == v2135)), some (.bool ((ishr .i64 (rd codes2078 i2140) (wr .u64 (w64 ((rd l_2073 i2140) - length2136)))) == v2135)), some (.bool ((ishr .i64 (rd codes2078 i2140) (wr .u64 (w64 ((rd l_2073 i2140) - length2136)))) == v2135)), some (.bool begins2155)]) hS mixed rfl ?_
                    intro l w ho hcl hA hst
                    refine phaseE (vals := [some (.bool false), some (.bool false), some (.slice A2074 l_2073.length c2075), some (.int .i64 i2140), some (slp A2074 (Int.toNat i2140 * 1)), some (.int .i64 (rd l_2073 i2140)), some (.int .i64 length2136), some (.bool true), some (.bool true), some (.slice A2079 codes2078.length c2080), some (.int .i64 i2140), some (slp A2079 (Int.toNat i2140 * 1)), some (.int .i64 (rd codes2078 i2140)), some (.slice A2074 l_2073.length c2075), some (.int .i64 i2140), some (slp A2074 (Int.toNat i2140 * 1)), some (.int .i64 (rd l_2073 i2140)), some (.int .i64 length2136), some (.int .i64 (w64 ((rd l_2073 i2140) - length2136))), some (.int .u64 (wr .u64 (w64 ((rd l_2073 i2140) - length2136)))), some (.int .i64 (ishr .i64 (rd codes2078 i2140) (wr .u64 (w64 ((rd l_2073 i2140) - length2136))))), some (.int .i64 v2135), some (.bool ((ishr .i64 (rd codes2078 i2140) (wr .u64 (w64 ((rd l_2073 i2140) - length2136)))) == v2135)), some (.bool ((ishr .i64 (rd codes2078 i2140) (wr .u64 (w64 ((rd l_2073 i2140) - length2136)))) == v2135)), some (.bool ((ishr .i64 (rd codes2078 i2140) (wr .u64 (w64 ((rd l_2073 i2140) - length2136)))) == v2135)), some (.bool begins2155)]) [] [0, 1, 2, 3, 4, 5, 6, 7, 8, 9, 10, 11, 12, 13, 14, 15, 16, 17, 18, 19, 20, 21, 22, 23, 24, 25] rfl rfl rfl (by exact ⟨nR rfl rfl rfl rfl rfl (by exact ovE (mv rfl) (congrArg Value.bool hb2148)), nR rfl rfl rfl rfl rfl (by exact ovE (mv rfl) rfl), nW rfl rfl rfl rfl rfl rfl rfl rfl (by exact ovE (mv rfl) rfl), nW rfl rfl rfl rfl rfl rfl rfl rfl (by exact ovE (mv rfl) rfl), nW rfl rfl rfl rfl rfl rfl rfl rfl (by exact ovE (ixV rfl rfl Tryd.runUnderlying67 Tryd.sizeOf3 hr2076.wk (fun _ => rfl) rfl hk2143) rfl), nW rfl rfl rfl rfl rfl rfl rfl rfl (by exact ovE (ldV0 rfl hr2076.wk (fun _ => rfl) hk2143 rfl Tryd.isAgg3) rfl), nW rfl rfl rfl rfl rfl rfl rfl rfl (by exact ovE (mv rfl) rfl), nW rfl rfl rfl rfl rfl rfl rfl rfl (by exact ovE (bin rfl rfl rfl) (congrArg Value.bool hb2150)), nW rfl rfl rfl rfl rfl rfl rfl rfl (by exact ovE (mv rfl) rfl), nW rfl rfl rfl rfl rfl rfl rfl rfl (by exact ovE (mv rfl) rfl), nW rfl rfl rfl rfl rfl rfl rfl rfl (by exact ovE (mv rfl) rfl), nW rfl rfl rfl rfl rfl rfl rfl rfl (by exact ovE (ixV rfl rfl Tryd.runUnderlying67 Tryd.sizeOf3 hr2081.wk (fun _ => rfl) rfl hk2152) rfl), nW rfl rfl rfl rfl rfl rfl rfl rfl (by exact ovE (ldV0 rfl hr2081.wk (fun _ => rfl) hk2152 rfl Tryd.isAgg3) rfl), nW rfl rfl rfl rfl rfl rfl rfl rfl (by exact ovE (mv rfl) rfl), nW rfl rfl rfl rfl rfl rfl rfl rfl (by exact ovE (mv rfl) rfl), nW rfl rfl rfl rfl rfl rfl rfl rfl (by exact ovE (ixV rfl rfl Tryd.runUnderlying67 Tryd.sizeOf3 hr2076.wk (fun _ => rfl) rfl hk2143) rfl), nW rfl rfl rfl rfl rfl rfl rfl rfl (by exact ovE (ldV0 rfl hr2076.wk (fun _ => rfl) hk2143 rfl Tryd.isAgg3) rfl), nW rfl rfl rfl rfl rfl rfl rfl rfl (by exact ovE (mv rfl) rfl), nW rfl rfl rfl rfl rfl rfl rfl rfl (by exact ovE (bin rfl rfl rfl) rfl), nW rfl rfl rfl rfl rfl rfl rfl rfl (by exact ovE (cvi rfl Tryd.runUnderlying3 Tryd.runUnderlying37) rfl), nW rfl rfl rfl rfl rfl rfl rfl rfl (by exact ovE (shr rfl rfl hk2154) rfl), nW rfl rfl rfl rfl rfl rfl rfl rfl (by exact ovE (mv rfl) rfl), nW rfl rfl rfl rfl rfl rfl rfl rfl (by exact ovE (bin rfl rfl rfl) rfl), nW rfl rfl rfl rfl rfl rfl rfl rfl (by exact ovE (pk rfl rfl rfl) rfl), nR rfl rfl rfl rfl rfl (by exact ovE (pk rfl rfl rfl) rfl), nR rfl rfl rfl rfl rfl (by exact ovE (asg rfl) (congrArg (Value.bool) hz2156.symm)), trivial⟩) (fun a w hS => ?_) ho hcl (fun m hm => (List.not_mem_nil hm).elim) hA hst
                    replace hS := hS.env2 (e' := [(0, .slice A2074 l_2073.length c2075), (1, .slice A2079 codes2078.length c2080), (2, ptr b2084 0), (8, .int .i64 r2083.At_), (9, .int .i64 v2135), (10, .int .i64 length2136), (11, .bool begins2155), (12, .int .i64 i2140)]) ⟨rfl, rfl, rfl, rfl, rfl, rfl, rfl, rfl, trivial⟩
                    refine blk_n (then_n ?_)
                    refine wp_region_list ?_
                    refine st1 hS (mv rfl) rfl fun a w hS => ?_
                    refine st1 hS (bin rfl rfl rfl) rfl fun a w hS => ?_
                    refine st1x (v := Value.int .i64) hS (asg rfl) rfl fun i2157 a w hz hS => ?_
                    have hM := lt_to hz hM; clear hz
                    refine wpList_nil ?_
                    refine then_n ?_
                    exact hJ2159 _ _ ⟨begins2155, i2157, hS.to [0] (by kernel_rfl) ⟨rfl, rfl, rfl, rfl, rfl, rfl, rfl, rfl, trivial⟩, hM⟩
                  · refine draw_begin (vals := [some (.bool false), some (.bool false), some (.slice A2074 l_2073.length c2075), some (.int .i64 i2140), some (slp A2074 (Int.toNat i2140 * 1)), some (.int .i64 (rd l_2073 i2140)), some (.int .i64 length2136), some (.bool false), some (.bool false), some (undef), some (undef), some (undef), some (undef), some (undef), some (undef), some (undef), some (undef), some (undef), some (undef), some (undef), some (undef), some (undef), some (undef), some (.bool false), some (.bool false), some (.bool false)]) hS mixed rfl ?_
                    intro l w ho hcl hA hst
                    refine phaseE (vals := [some (.bool false), some (.bool false), some (.slice A2074 l_2073.length c2075), some (.int .i64 i2140), some (slp A2074 (Int.toNat i2140 * 1)), some (.int .i64 (rd l_2073 i2140)), some (.int .i64 length2136), some (.bool false), some (.bool false), some (undef), some (undef), some (undef), some (undef), some (undef), some (undef), some (undef), some (undef), some (undef), some (undef), some (undef), some (undef), some (undef), some (undef), some (.bool false), some (.bool false), some (.bool false)]) [] [0, 1, 2, 3, 4, 5, 6, 7, 8, 9, 10, 11, 12, 13, 14, 15, 16, 17, 18, 19, 20, 21, 22, 23, 24, 25] rfl rfl rfl (by exact ⟨nR rfl rfl rfl rfl rfl (by exact ovE (mv rfl) (congrArg Value.bool hb2148)), nR rfl rfl rfl rfl rfl (by exact ovE (mv rfl) rfl), nW rfl rfl rfl rfl rfl rfl rfl rfl (by exact ovE (mv rfl) rfl), nW rfl rfl rfl rfl rfl rfl rfl rfl (by exact ovE (mv rfl) rfl), nW rfl rfl rfl rfl rfl rfl rfl rfl (by exact ovE (ixV rfl rfl Tryd.runUnderlying67 Tryd.sizeOf3 hr2076.wk (fun _ => rfl) rfl hk2143) rfl), nW rfl rfl rfl rfl rfl rfl rfl rfl (by exact ovE (ldV0 rfl hr2076.wk (fun _ => rfl) hk2143 rfl Tryd.isAgg3) rfl), nW rfl rfl rfl rfl rfl rfl rfl rfl (by exact ovE (mv rfl) rfl), nW rfl rfl rfl rfl rfl rfl rfl rfl (by exact ovE (bin rfl rfl rfl) (congrArg Value.bool hb2150)), nW rfl rfl rfl rfl rfl rfl rfl rfl (by exact ovE (mv rfl) rfl), nS rfl rfl rfl rfl rfl rfl rfl rfl rfl, nS rfl rfl rfl rfl rfl rfl rfl rfl rfl, nS rfl rfl rfl rfl rfl rfl rfl rfl rfl, nS rfl rfl rfl rfl rfl rfl rfl rfl rfl, nS rfl rfl rfl rfl rfl rfl rfl rfl rfl, nS rfl rfl rfl rfl rfl rfl rfl rfl rfl, nS rfl rfl rfl rfl rfl rfl rfl rfl rfl, nS rfl rfl rfl rfl rfl rfl rfl rfl rfl, nS rfl rfl rfl rfl rfl rfl rfl rfl rfl, nS rfl rfl rfl rfl rfl rfl rfl rfl rfl, nS rfl rfl rfl rfl rfl rfl rfl rfl rfl, nS rfl rfl rfl rfl rfl rfl rfl rfl rfl, nS rfl rfl rfl rfl rfl rfl rfl rfl rfl, nS rfl rfl rfl rfl rfl rfl rfl rfl rfl, nW rfl rfl rfl rfl rfl rfl rfl rfl (by exact ovE (pk rfl rfl rfl) rfl), nR rfl rfl rfl rfl rfl (by exact ovE (pk rfl rfl rfl) rfl), nR rfl rfl rfl rfl rfl (by exact ovE (asg rfl) rfl), trivial⟩) (fun a w hS => ?_) ho hcl (fun m hm => (List.not_mem_nil hm).elim) hA hst
                    replace hS := hS.env2 (e' := [(0, .slice A2074 l_2073.length c2075), (1, .slice A2079 codes2078.length c2080), (2, ptr b2084 0), (8, .int .i64 r2083.At_), (9, .int .i64 v2135), (10, .int .i64 length2136), (11, .bool false), (12, .int .i64 i2140)]) ⟨rfl, rfl, rfl, rfl, rfl, rfl, rfl, rfl, trivial⟩
                    refine blk_n (then_n ?_)
                    refine wp_region_list ?_
                    refine st1 hS (mv rfl) rfl fun a w hS => ?_
                    refine st1 hS (bin rfl rfl rfl) rfl fun a w hS => ?_
                    refine st1x (v := Value.int .i64) hS (asg rfl) rfl fun i2158 a w hz hS => ?_
                    have hM := lt_to hz hM; clear hz
                    refine wpList_nil ?_
                    refine then_n ?_
                    exact hJ2159 _ _ ⟨false, i2158, hS.to [0] (by kernel_rfl) ⟨rfl, rfl, rfl, rfl, rfl, rfl, rfl, rfl, trivial⟩, hM⟩
            · refine wp_exit ?_
              refine then_ex (then_ex (blk_same (then_n ?_)))
              exact hJ2161 _ _ ⟨begins2139, hS.to [0] (by kernel_rfl) ⟨rfl, rfl, rfl, rfl, rfl, rfl, rfl, trivial⟩, hM⟩
        · intro a w hI
          obtain ⟨begins2160, hS, hM⟩ := hI
          rw [mortiseref06_Next.j3] at hM
          refine wp_seq ?_
          refine wp_seq ?_
          refine wp_region_list ?_
          refine st1 hS (mv rfl) rfl fun a w hS => ?_
          refine st1 hS (un rfl rfl) rfl fun a w hS => ?_
          refine wpList_nil ?_
          refine then_n ?_
          refine s_cond hS rfl hM (fun hb2162 hM => ?_) (fun hb2162 hM => ?_)
          · refine wp_seq ?_
            refine wp_region_list ?_
            refine st1 hS (mv rfl) rfl fun a w hS => ?_
            refine st1 hS (mv rfl) rfl fun a w hS => ?_
            refine st1 hS (nck rfl) rfl fun a w hS => ?_
            refine st1 hS (fad rfl Tryd.runUnderlying49 rfl Tryd.sizeOf3 rfl) rfl fun a w hS => ?_
            refine sto 0 ([str r2083.S_, .int .i64 r2083.At_]) hS rfl rfl hB2134 rfl rfl rfl rfl Tryd.sizeOf3 fun w f2163 hB2164 hS => ?_
            refine wpList_nil ?_
            refine then_n ?_
            refine wp_seq ?_
            refine wp_region_list ?_
            refine st1 hS (asg rfl) rfl fun a w hS => ?_
            refine st1 hS (asg rfl) rfl fun a w hS => ?_
            refine wpList_nil ?_
            refine then_n ?_
            refine wp_ret ?_
            refine then_ret (blk_ret (then_ret (then_ret (blk_ret (then_ret ?_)))))
            exact s_ret (rs := [6, 7]) hS rfl rfl (hret (0 : Int) (3 : Int) r2083.At_ f2163 w hM hB2164 (hS.st.pick [0] (by kernel_rfl)))
          · refine wp_skip ?_
            refine then_n ?_
            refine wp_seq ?_
            refine wp_region_list ?_
            refine st1 hS (mv rfl) rfl fun a w hS => ?_
            refine s_call hS rfl Tryd.call40 (mortiseref05_Reader_Bits_c hG K (T_mortiseref05_Reader.mk r2083.S_ at_2132) (1 : Int) b2084 f2133 hB2134 (hS.st.part 1 [0] (by kernel_rfl)) (wp_bind hM) (fun x2165 x2166 at_2167 f2168 w hM h2169 hst => s_back hS.ev hst.appF rfl fun hS => ?_))
            replace hS : Ss _ _ _ H [f2168] F _ _ := hS
            refine st1 hS (mv rfl) rfl fun a w hS => ?_
            refine st1 hS (ex rfl rfl) rfl fun a w hS => ?_
            refine st1 hS (ex rfl rfl) rfl fun a w hS => ?_
            refine st1 hS (asg rfl) rfl fun a w hS => ?_
            refine st1 hS (asg rfl) rfl fun a w hS => ?_
            refine wpList_nil ?_
            refine then_n ?_
            refine wp_seq ?_
            refine wp_seq ?_
            refine wp_region_list ?_
            refine st1 hS (mv rfl) rfl fun a w hS => ?_
            refine st1 hS (bin rfl rfl rfl) rfl fun a w hS => ?_
            refine wpList_nil ?_
            refine then_n ?_
            refine s_cond hS rfl hM (fun hb2170 hM => ?_) (fun hb2170 hM => ?_)
            · refine wp_seq ?_
              refine wp_region_list ?_
              refine st1 hS (mv rfl) rfl fun a w hS => ?_
              refine st1 hS (mv rfl) rfl fun a w hS => ?_
              refine st1 hS (nck rfl) rfl fun a w hS => ?_
              refine st1 hS (fad rfl Tryd.runUnderlying49 rfl Tryd.sizeOf3 rfl) rfl fun a w hS => ?_
              refine sto 0 ([str r2083.S_, .int .i64 r2083.At_]) hS rfl rfl h2169 rfl rfl rfl rfl Tryd.sizeOf3 fun w f2171 hB2172 hS => ?_
              refine wpList_nil ?_
              refine then_n ?_
              refine wp_seq ?_
              refine wp_region_list ?_
              refine st1 hS (mv rfl) rfl fun a w hS => ?_
              refine st1 hS (asg rfl) rfl fun a w hS => ?_
              refine st1 hS (asg rfl) rfl fun a w hS => ?_
              refine wpList_nil ?_
              refine then_n ?_
              refine wp_ret ?_
              refine then_ret (blk_ret (then_ret (then_ret (blk_ret (then_ret ?_)))))
              exact s_ret (rs := [6, 7]) hS rfl rfl (hret (0 : Int) x2166 r2083.At_ f2171 w hM hB2172 (hS.st.pick [0] (by kernel_rfl)))
            · refine wp_skip ?_
              refine then_n ?_
              refine wp_region_list ?_
              refine st1 hS (mv rfl) rfl fun a w hS => ?_
              refine st1 hS (bin rfl rfl rfl) rfl fun a w hS => ?_
              refine st1 hS (mv rfl) rfl fun a w hS => ?_
              refine st1 hS (cvi rfl Tryd.runUnderlying33 Tryd.runUnderlying3) rfl fun a w hS => ?_
              refine st1 hS (bin rfl rfl rfl) rfl fun a w hS => ?_
              refine st1x (v := Value.int .i64) hS (asg rfl) rfl fun v2173 a w hz hS => ?_
              have hM := lt_to hz hM; clear hz
              refine wpList_nil ?_
              refine blk_n (then_n ?_)
              refine wp_region_list ?_
              refine st1 hS (mv rfl) rfl fun a w hS => ?_
              refine st1 hS (bin rfl rfl rfl) rfl fun a w hS => ?_
              refine st1x (v := Value.int .i64) hS (asg rfl) rfl fun length2174 a w hz hS => ?_
              have hM := lt_to hz hM; clear hz
              refine wpList_nil ?_
              refine then_n ?_
              exact hJ2175 _ _ ⟨at_2167, f2168, v2173, length2174, hS.to [0] (by kernel_rfl) ⟨rfl, rfl, rfl, rfl, rfl, rfl, trivial⟩, h2169, hM⟩
      · refine wp_exit ?_
        refine then_ex (then_ex (blk_same (then_n ?_)))
        exact hJ2179 _ _ ⟨at_2132, f2133, hS.to [0] (by kernel_rfl) ⟨rfl, rfl, trivial⟩, hB2134, hM⟩
  · intro a w hI
    obtain ⟨at_2176, f2177, hS, hB2178, hM⟩ := hI
    rw [mortiseref06_Next.j4] at hM
    refine wp_seq ?_
    refine wp_region_list ?_
    refine st1 hS (mv rfl) rfl fun a w hS => ?_
    refine st1 hS (mv rfl) rfl fun a w hS => ?_
    refine st1 hS (nck rfl) rfl fun a w hS => ?_
    refine st1 hS (fad rfl Tryd.runUnderlying49 rfl Tryd.sizeOf3 rfl) rfl fun a w hS => ?_
    refine sto 0 ([str r2083.S_, .int .i64 r2083.At_]) hS rfl rfl hB2178 rfl rfl rfl rfl Tryd.sizeOf3 fun w f2180 hB2181 hS => ?_
    refine wpList_nil ?_
    refine then_n ?_
    refine wp_seq ?_
    refine wp_region_list ?_
    refine st1 hS (asg rfl) rfl fun a w hS => ?_
    refine st1 hS (asg rfl) rfl fun a w hS => ?_
    refine wpList_nil ?_
    refine then_n ?_
    refine wp_ret ?_
    exact s_ret (rs := [6, 7]) hS rfl rfl (hret (0 : Int) (3 : Int) r2083.At_ f2180 w hM hB2181 (hS.st.pick [0] (by kernel_rfl)))

theorem mortiseref07_Length_c {H : Imm} {F : List Frag} {w : World} {R : Ending → World → Prop} {kr : (Int × Int) → Prop} {kp : Value → Prop} (hG : Gl H) (K : Nat) (symbol2233 : Int)
    (hS : St w H [] F) (hm : (mortiseref07_Length.m K symbol2233).wp kr kp)
    (hret : ∀ (x2241 : Int) (x2242 : Int) (w : World), kr (x2241, x2242) → St w H [] F → R (.returned (.tuple ⟨[.int .i64 x2241, .int .i64 x2242]⟩)) w) :
    Calls Tryd.prog 52 ⟨[.int .i64 symbol2233]⟩ w R := by
  refine enter Tryd.func52 rfl Tryd.ntmps52 rfl hS fun a w hS => ?_
  have hM := hm; clear hm
  rw [mortiseref07_Length.m] at hM
  refine wp_seq ?_
  refine wp_region_list ?_
  refine st1 hS (asg rfl) rfl fun a w hS => ?_
  refine st1 hS (asg rfl) rfl fun a w hS => ?_
  refine wpList_nil ?_
  refine then_n ?_
  refine wp_seq ?_
  refine wp_seq ?_
  refine wp_region_list ?_
  refine st1 hS (mv rfl) rfl fun a w hS => ?_
  refine st1 hS (bin rfl rfl rfl) rfl fun a w hS => ?_
  refine wpList_nil ?_
  refine then_n ?_
  refine s_cond hS rfl hM (fun hb2234 hM => ?_) (fun hb2234 hM => ?_)
  · refine wp_seq ?_
    refine wp_region_list ?_
    refine st1 hS (asg rfl) rfl fun a w hS => ?_
    refine st1 hS (asg rfl) rfl fun a w hS => ?_
    refine wpList_nil ?_
    refine then_n ?_
    refine wp_ret ?_
    refine then_ret ?_
    exact s_ret (rs := [2, 3]) hS rfl rfl (hret (258 : Int) (0 : Int) w hM (hS.st.pick [] (by kernel_rfl)))
  · refine wp_skip ?_
    refine then_n ?_
    refine wp_seq ?_
    refine wp_region_list ?_
    refine st1 hS (mv rfl) rfl fun a w hS => ?_
    refine st1 hS (bin rfl rfl rfl) rfl fun a w hS => ?_
    refine st1x (v := Value.int .i64) hS (asg rfl) rfl fun k_2235 a w hz hS => ?_
    have hM := lt_to hz hM; clear hz
    refine wpList_nil ?_
    refine then_n ?_
    refine wp_seq ?_
    refine wp_seq ?_
    refine wp_region_list ?_
    refine st1 hS (mv rfl) rfl fun a w hS => ?_
    refine st1 hS (bin rfl rfl rfl) rfl fun a w hS => ?_
    refine wpList_nil ?_
    refine then_n ?_
    refine s_cond hS rfl hM (fun hb2236 hM => ?_) (fun hb2236 hM => ?_)
    · refine wp_seq ?_
      refine wp_region_list ?_
      refine st1 hS (mv rfl) rfl fun a w hS => ?_
      refine st1 hS (bin rfl rfl rfl) rfl fun a w hS => ?_
      refine st1x (v := Value.int .i64) hS (asg rfl) rfl fun v2237 a w hz hS => ?_
      have hM := lt_to hz hM; clear hz
      refine st1 hS (asg rfl) rfl fun a w hS => ?_
      refine wpList_nil ?_
      refine then_n ?_
      refine wp_ret ?_
      refine then_ret ?_
      exact s_ret (rs := [2, 3]) hS rfl rfl (hret v2237 (0 : Int) w hM (hS.st.pick [] (by kernel_rfl)))
    · refine wp_skip ?_
      refine then_n ?_
      refine wp_seq ?_
      refine wp_region_list ?_
      refine st1 hS (mv rfl) rfl fun a w hS => ?_
      refine st1 hS (quo rfl rfl rfl) rfl fun a w hS => ?_
      refine st1 hS (bin rfl rfl rfl) rfl fun a w hS => ?_
      refine st1x (v := Value.int .i64) hS (asg rfl) rfl fun more2238 a w hz hS => ?_
      have hM := lt_to hz hM; clear hz
      refine wpList_nil ?_
      refine then_n ?_
      refine wp_seq ?_
      refine wp_region_list ?_
      refine st1 hS (mv rfl) rfl fun a w hS => ?_
      refine st1 hS (rem rfl rfl rfl) rfl fun a w hS => ?_
      refine st1 hS (bin rfl rfl rfl) rfl fun a w hS => ?_
      refine st1 hS (mv rfl) rfl fun a w hS => ?_
      refine st1 hS (cvi rfl Tryd.runUnderlying3 Tryd.runUnderlying37) rfl fun a w hS => ?_
      obtain ⟨hk2239, hM⟩ := wp_chk hM
      refine st1 hS (shl rfl rfl hk2239) rfl fun a w hS => ?_
      refine st1 hS (bin rfl rfl rfl) rfl fun a w hS => ?_
      refine st1 hS (mv rfl) rfl fun a w hS => ?_
      refine st1x (v := Value.int .i64) hS (asg rfl) rfl fun v2240 a w hz hS => ?_
      have hM := lt_to hz hM; clear hz
      refine st1 hS (asg rfl) rfl fun a w hS => ?_
      refine wpList_nil ?_
      refine then_n ?_
      refine wp_ret ?_
      exact s_ret (rs := [2, 3]) hS rfl rfl (hret v2240 more2238 w hM (hS.st.pick [] (by kernel_rfl)))

theorem mortiseref07_Distance_c {H : Imm} {F : List Frag} {w : World} {R : Ending → World → Prop} {kr : (Int × Int) → Prop} {kp : Value → Prop} (hG : Gl H) (K : Nat) (symbol2258 : Int)
    (hS : St w H [] F) (hm : (mortiseref07_Distance.m K symbol2258).wp kr kp)
    (hret : ∀ (x2264 : Int) (x2265 : Int) (w : World), kr (x2264, x2265) → St w H [] F → R (.returned (.tuple ⟨[.int .i64 x2264, .int .i64 x2265]⟩)) w) :
    Calls Tryd.prog 53 ⟨[.int .i64 symbol2258]⟩ w R := by
  refine enter Tryd.func53 rfl Tryd.ntmps53 rfl hS fun a w hS => ?_
  have hM := hm; clear hm
  rw [mortiseref07_Distance.m] at hM
  refine wp_seq ?_
  refine wp_region_list ?_
  refine st1 hS (asg rfl) rfl fun a w hS => ?_
  refine st1 hS (asg rfl) rfl fun a w hS => ?_
  refine wpList_nil ?_
  refine then_n ?_
  refine wp_seq ?_
  refine wp_seq ?_
  refine wp_region_list ?_
  refine st1 hS (mv rfl) rfl fun a w hS => ?_
  refine st1 hS (bin rfl rfl rfl) rfl fun a w hS => ?_
  refine wpList_nil ?_
  refine then_n ?_
  refine s_cond hS rfl hM (fun hb2259 hM => ?_) (fun hb2259 hM => ?_)
  · refine wp_seq ?_
    refine wp_region_list ?_
    refine st1 hS (mv rfl) rfl fun a w hS => ?_
    refine st1 hS (bin rfl rfl rfl) rfl fun a w hS => ?_
    refine st1x (v := Value.int .i64) hS (asg rfl) rfl fun v2260 a w hz hS => ?_
    have hM := lt_to hz hM; clear hz
    refine st1 hS (asg rfl) rfl fun a w hS => ?_
    refine wpList_nil ?_
    refine then_n ?_
    refine wp_ret ?_
    refine then_ret ?_
    exact s_ret (rs := [2, 3]) hS rfl rfl (hret v2260 (0 : Int) w hM (hS.st.pick [] (by kernel_rfl)))
  · refine wp_skip ?_
    refine then_n ?_
    refine wp_seq ?_
    refine wp_region_list ?_
    refine st1 hS (mv rfl) rfl fun a w hS => ?_
    refine st1 hS (quo rfl rfl rfl) rfl fun a w hS => ?_
    refine st1 hS (bin rfl rfl rfl) rfl fun a w hS => ?_
    refine st1x (v := Value.int .i64) hS (asg rfl) rfl fun more2261 a w hz hS => ?_
    have hM := lt_to hz hM; clear hz
    refine wpList_nil ?_
    refine then_n ?_
    refine wp_seq ?_
    refine wp_region_list ?_
    refine st1 hS (mv rfl) rfl fun a w hS => ?_
    refine st1 hS (rem rfl rfl rfl) rfl fun a w hS => ?_
    refine st1 hS (bin rfl rfl rfl) rfl fun a w hS => ?_
    refine st1 hS (mv rfl) rfl fun a w hS => ?_
    refine st1 hS (cvi rfl Tryd.runUnderlying3 Tryd.runUnderlying37) rfl fun a w hS => ?_
    obtain ⟨hk2262, hM⟩ := wp_chk hM
    refine st1 hS (shl rfl rfl hk2262) rfl fun a w hS => ?_
    refine st1 hS (bin rfl rfl rfl) rfl fun a w hS => ?_
    refine st1 hS (mv rfl) rfl fun a w hS => ?_
    refine st1x (v := Value.int .i64) hS (asg rfl) rfl fun v2263 a w hz hS => ?_
    have hM := lt_to hz hM; clear hz
    refine st1 hS (asg rfl) rfl fun a w hS => ?_
    refine wpList_nil ?_
    refine then_n ?_
    refine wp_ret ?_
    exact s_ret (rs := [2, 3]) hS rfl rfl (hret v2263 more2261 w hM (hS.st.pick [] (by kernel_rfl)))

theorem mortiseref07_state_match_c {H : Imm} {F : List Frag} {w : World} {R : Ending → World → Prop} {kr : (Int × Int × (List Int)) → Prop} {kp : Value → Prop} (hG : Gl H) (K : Nat) (s2208 : T_mortiseref07_state) (symbol2219 : Int) (distances2220 : T_mortiseref07_code) (b2209 : Nat) (f2210 : Frag) (b2212 : Nat) (f2213 : Frag) (A2215 : Option Addr) (c2216 : Nat) (f2217 : Frag) (A2221 : Option Addr) (c2222 : Nat) (A2225 : Option Addr) (c2226 : Nat) (hB2211 : Blk f2210 b2209 ([ptr b2212 0, .slice A2215 s2208.out_.length c2216, .int .i64 s2208.limit_]) 51) (hB2214 : Blk f2213 b2212 ([str s2208.r_.S_, .int .i64 s2208.r_.At_]) 49) (hV2218 : Vec 5 (ci .u8) 1 A2215 s2208.out_ c2216 f2217) (hr2223 : Rdl H [] F (ci .i64) A2221 distances2220.l_) (hc2224 : distances2220.l_.length ≤ c2222) (hr2227 : Rdl H [] F (ci .i64) A2225 distances2220.codes_) (hc2228 : distances2220.codes_.length ≤ c2226)
    (hS : St w H [f2210, f2213, f2217] F) (hm : (mortiseref07_state_match.m K s2208 symbol2219 distances2220).wp kr kp)
    (hret : ∀ (x2328 : Int) (at_2329 : Int) (f2330 : Frag) (A2332 : Option Addr) (c2333 : Nat) (out2334 : (List Int)) (f2335 : Frag) (f2337 : Frag) (w : World), kr (x2328, at_2329, out2334) → (Blk f2330 b2212 ([str s2208.r_.S_, .int .i64 at_2329]) 49) → (Vec 5 (ci .u8) 1 A2332 out2334 c2333 f2335) → (Blk f2337 b2209 ([ptr b2212 0, .slice A2332 out2334.length c2333, .int .i64 s2208.limit_]) 51) → St w H [f2337, f2330, f2335] F → R (.returned (.int .i64 x2328)) w) :
    Calls Tryd.prog 44 ⟨[ptr b2209 0, .int .i64 symbol2219, .agg ⟨[.slice A2221 distances2220.l_.length c2222, .slice A2225 distances2220.codes_.length c2226]⟩]⟩ w R := by
  refine enter Tryd.func44 rfl Tryd.ntmps44 rfl hS fun a w hS => ?_
  have hM := hm; clear hm
  rw [mortiseref07_state_match.m] at hM
  refine wp_seq ?_
  refine wp_region_list ?_
  refine bx ([.slice A2221 distances2220.l_.length c2222, .slice A2225 distances2220.codes_.length c2226]) hS rfl rfl rfl fun w b2229 f2230 hB2231 hS => ?_
  refine st1 hS (asg rfl) rfl fun a w hS => ?_
  refine wpList_nil ?_
  refine then_n ?_
  refine wp_seq ?_
  refine wp_seq ?_
  refine wp_region_list ?_
  refine st1 hS (mv rfl) rfl fun a w hS => ?_
  refine st1 hS (bin rfl rfl rfl) rfl fun a w hS => ?_
  refine wpList_nil ?_
  refine then_n ?_
  refine s_cond hS rfl hM (fun hb2232 hM => ?_) (fun hb2232 hM => ?_)
  · refine wp_seq ?_
    refine wp_region_list ?_
    refine st1 hS (asg rfl) rfl fun a w hS => ?_
    refine wpList_nil ?_
    refine then_n ?_
    refine wp_ret ?_
    refine then_ret ?_
    exact s_ret (rs := [6]) hS rfl rfl (hret (3 : Int) s2208.r_.At_ f2213 A2215 c2216 s2208.out_ f2217 f2210 w hM hB2214 hV2218 hB2211 (hS.st.pick [1, 2, 3] (by kernel_rfl)))
  · refine wp_skip ?_
    refine then_n ?_
    refine wp_seq ?_
    refine wp_region_list ?_
    refine st1 hS (mv rfl) rfl fun a w hS => ?_
    refine s_call hS rfl Tryd.call52 (mortiseref07_Length_c hG K symbol2219 (hS.st.part 0 [0, 1, 2, 3] (by kernel_rfl)) (wp_bind hM) (fun x2243 x2244 w hM  hst => s_back hS.ev hst.appF rfl fun hS => ?_))
    replace hS : Ss _ _ _ H [f2230, f2210, f2213, f2217] F _ _ := hS
    refine st1 hS (mv rfl) rfl fun a w hS => ?_
    refine st1 hS (ex rfl rfl) rfl fun a w hS => ?_
    refine st1 hS (ex rfl rfl) rfl fun a w hS => ?_
    refine st1 hS (asg rfl) rfl fun a w hS => ?_
    refine st1 hS (asg rfl) rfl fun a w hS => ?_
    refine wpList_nil ?_
    refine then_n ?_
    refine wp_seq ?_
    refine wp_region_list ?_
    refine st1 hS (mv rfl) rfl fun a w hS => ?_
    refine st1 hS (mv rfl) rfl fun a w hS => ?_
    refine st1 hS (mv rfl) rfl fun a w hS => ?_
    refine s_call hS rfl Tryd.call27 (mortiseref07_state_bits_c hG K s2208 x2244 x2243 b2209 f2210 b2212 f2213 A2215 c2216 f2217 hB2211 hB2214 hV2218 (hS.st.part 3 [1, 2, 3, 0] (by kernel_rfl)) (wp_bind hM) (fun x2245 x2246 at_2247 f2248 w hM h2249 hst => s_back hS.ev hst.appF rfl fun hS => ?_))
    replace hS : Ss _ _ _ H [f2210, f2248, f2217, f2230] F _ _ := hS
    refine st1 hS (mv rfl) rfl fun a w hS => ?_
    refine st1 hS (ex rfl rfl) rfl fun a w hS => ?_
    refine st1 hS (ex rfl rfl) rfl fun a w hS => ?_
    refine st1 hS (asg rfl) rfl fun a w hS => ?_
    refine st1 hS (asg rfl) rfl fun a w hS => ?_
    refine wpList_nil ?_
    refine then_n ?_
    refine wp_seq ?_
    refine wp_seq ?_
    refine wp_region_list ?_
    refine st1 hS (mv rfl) rfl fun a w hS => ?_
    refine st1 hS (bin rfl rfl rfl) rfl fun a w hS => ?_
    refine wpList_nil ?_
    refine then_n ?_
    refine s_cond hS rfl hM (fun hb2250 hM => ?_) (fun hb2250 hM => ?_)
    · refine wp_seq ?_
      refine wp_region_list ?_
      refine st1 hS (mv rfl) rfl fun a w hS => ?_
      refine st1 hS (asg rfl) rfl fun a w hS => ?_
      refine wpList_nil ?_
      refine then_n ?_
      refine wp_ret ?_
      refine then_ret ?_
      exact s_ret (rs := [6]) hS rfl rfl (hret x2246 at_2247 f2248 A2215 c2216 s2208.out_ f2217 f2210 w hM h2249 hV2218 hB2211 (hS.st.pick [0, 1, 2] (by kernel_rfl)))
    · refine wp_skip ?_
      refine then_n ?_
      refine wp_seq ?_
      refine draw_begin (vals := [some (ptr b2229 0), some (.slice A2221 distances2220.l_.length c2222), some (ptr b2229 1), some (.slice A2225 distances2220.codes_.length c2226), some (ptr b2209 0), some (ptr b2209 0), some (ptr b2209 0), some (ptr b2212 0), none, none, none, none, none, none]) hS mixed rfl ?_
      intro l w ho hcl hA hst
      refine phase' (vals := [some (ptr b2229 0), some (.slice A2221 distances2220.l_.length c2222), some (ptr b2229 1), some (.slice A2225 distances2220.codes_.length c2226), some (ptr b2209 0), some (ptr b2209 0), some (ptr b2209 0), some (ptr b2212 0), none, none, none, none, none, none]) 8 [] [0, 1, 2, 3, 4, 5, 6, 7] rfl rfl rfl rfl (by exact ⟨nR rfl rfl rfl rfl rfl (by exact ovE (fad rfl Tryd.runUnderlying71 rfl Tryd.sizeOf67 rfl) rfl), nR rfl rfl rfl rfl rfl (by exact ovE (ldb 3 rfl hB2231 rfl rfl Tryd.isAgg67) rfl), nR rfl rfl rfl rfl rfl (by exact ovE (fad rfl Tryd.runUnderlying71 rfl Tryd.sizeOf67 rfl) rfl), nR rfl rfl rfl rfl rfl (by exact ovE (ldb 3 rfl hB2231 rfl rfl Tryd.isAgg67) rfl), nR rfl rfl rfl rfl rfl (by exact ovE (mv rfl) rfl), nR rfl rfl rfl rfl rfl (by exact ovE (nck rfl) rfl), nR rfl rfl rfl rfl rfl (by exact ovE (fad rfl Tryd.runUnderlying51 rfl Tryd.sizeOf47 rfl) rfl), nR rfl rfl rfl rfl rfl (by exact ovE (ldb 0 rfl hB2211 rfl rfl Tryd.isAgg47) rfl), trivial⟩) (fun D l a w ho hcl hav hpre hm hE hk hA hst => ?_) ho hcl (fun j hj => (List.not_mem_nil hj).elim) (fun m hm => (List.not_mem_nil hm).elim) List.not_mem_nil hA hst
      have hS := (Ss.mk hE hst).env2 (e' := [(37, .slice A2221 distances2220.l_.length c2222), (39, .slice A2225 distances2220.codes_.length c2226), (43, ptr b2212 0)]) ⟨rfl, rfl, rfl, trivial⟩
      refine op_of_nth rfl ?_
      refine s_call hS rfl Tryd.call43 (mortiseref06_Next_c hG K distances2220.l_ distances2220.codes_ (T_mortiseref05_Reader.mk s2208.r_.S_ at_2247) A2221 c2222 A2225 c2226 b2212 f2248 (hr2223.app _) hc2224 (hr2227.app _) hc2228 h2249 (hS.st.part 1 [1, 0, 2, 3] (by kernel_rfl)) (wp_bind hM) (fun x2251 x2252 at_2253 f2254 w hM h2255 hst => s_back hS.ev hst.appF rfl fun hS => ?_))
      replace hS : Ss _ _ _ H [f2254, f2210, f2217, f2230] F _ _ := hS
      refine wpList_nil (then_n ?_)
      have hcl2 := hcl.cons (k := 8) (nth_get rfl) hpre
      have hmust := must_cons (k := 8) hm (chain (k := 8) hcl (nth_get rfl) hpre [(1, 8), (3, 8), (7, 8), (0, 1), (2, 3), (6, 7), (5, 6), (4, 5)] [] rfl (fun _ h => absurd h List.not_mem_nil))
      replace hst := hS.st
      have hav2 := hav.cons (vals' := [some (ptr b2229 0), some (.slice A2221 distances2220.l_.length c2222), some (ptr b2229 1), some (.slice A2225 distances2220.codes_.length c2226), some (ptr b2209 0), some (ptr b2209 0), some (ptr b2209 0), some (ptr b2212 0), some (.tuple ⟨[.int .i64 x2251, .int .i64 x2252]⟩), some (.tuple ⟨[.int .i64 x2251, .int .i64 x2252]⟩), some (.int .i64 x2251), some (.int .i64 x2252), some (.int .i64 x2251), some (.int .i64 x2252)]) (k := 8) ⟨rfl, rfl, rfl, rfl, rfl, rfl, rfl, rfl, trivial⟩ rfl
      replace hA := (hA.next hav (subV.get (l' := [some (ptr b2229 0), some (.slice A2221 distances2220.l_.length c2222), some (ptr b2229 1), some (.slice A2225 distances2220.codes_.length c2226), some (ptr b2209 0), some (ptr b2209 0), some (ptr b2209 0), some (ptr b2212 0), some (.tuple ⟨[.int .i64 x2251, .int .i64 x2252]⟩), some (.tuple ⟨[.int .i64 x2251, .int .i64 x2252]⟩), some (.int .i64 x2251), some (.int .i64 x2252), some (.int .i64 x2251), some (.int .i64 x2252)]) ⟨rfl, rfl, rfl, rfl, rfl, rfl, rfl, rfl, trivial⟩)).step rfl (nth_get rfl) hk rfl rfl rfl
      clear hm hav
      replace hcl := hcl2
      refine phaseE (vals := [some (ptr b2229 0), some (.slice A2221 distances2220.l_.length c2222), some (ptr b2229 1), some (.slice A2225 distances2220.codes_.length c2226), some (ptr b2209 0), some (ptr b2209 0), some (ptr b2209 0), some (ptr b2212 0), some (.tuple ⟨[.int .i64 x2251, .int .i64 x2252]⟩), some (.tuple ⟨[.int .i64 x2251, .int .i64 x2252]⟩), some (.int .i64 x2251), some (.int .i64 x2252), some (.int .i64 x2251), some (.int .i64 x2252)]) [8, 1, 3, 7, 0, 2, 6, 5, 4] [9, 10, 11, 12, 13] rfl rfl rfl (by exact ⟨nR rfl rfl rfl rfl rfl (by exact ovE (mv rfl) rfl), nR rfl rfl rfl rfl rfl (by exact ovE (ex rfl rfl) rfl), nR rfl rfl rfl rfl rfl (by exact ovE (ex rfl rfl) rfl), nR rfl rfl rfl rfl rfl (by exact ovE (asg rfl) rfl), nR rfl rfl rfl rfl rfl (by exact ovE (asg rfl) rfl), trivial⟩) (fun a w hS => ?_) ho hcl hmust hA hst
      replace hS := hS.env2 (e' := [(0, ptr b2209 0), (9, .int .i64 x2245), (11, .int .i64 x2251), (12, .int .i64 x2252)]) ⟨rfl, rfl, rfl, rfl, trivial⟩
      refine then_n ?_
      refine wp_seq ?_
      refine wp_seq ?_
      refine wp_region_list ?_
      refine st1 hS (mv rfl) rfl fun a w hS => ?_
      refine st1 hS (bin rfl rfl rfl) rfl fun a w hS => ?_
      refine wpList_nil ?_
      refine then_n ?_
      refine s_cond hS rfl hM (fun hb2256 hM => ?_) (fun hb2256 hM => ?_)
      · refine wp_seq ?_
        refine wp_region_list ?_
        refine st1 hS (mv rfl) rfl fun a w hS => ?_
        refine st1 hS (asg rfl) rfl fun a w hS => ?_
        refine wpList_nil ?_
        refine then_n ?_
        refine wp_ret ?_
        refine then_ret ?_
        exact s_ret (rs := [6]) hS rfl rfl (hret x2252 at_2253 f2254 A2215 c2216 s2208.out_ f2217 f2210 w hM h2255 hV2218 hB2211 (hS.st.pick [1, 0, 2] (by kernel_rfl)))
      · refine wp_skip ?_
        refine then_n ?_
        refine wp_seq ?_
        refine wp_seq ?_
        refine wp_region_list ?_
        refine st1 hS (mv rfl) rfl fun a w hS => ?_
        refine st1 hS (bin rfl rfl rfl) rfl fun a w hS => ?_
        refine wpList_nil ?_
        refine then_n ?_
        refine s_cond hS rfl hM (fun hb2257 hM => ?_) (fun hb2257 hM => ?_)
        · refine wp_seq ?_
          refine wp_region_list ?_
          refine st1 hS (asg rfl) rfl fun a w hS => ?_
          refine wpList_nil ?_
          refine then_n ?_
          refine wp_ret ?_
          refine then_ret ?_
          exact s_ret (rs := [6]) hS rfl rfl (hret (3 : Int) at_2253 f2254 A2215 c2216 s2208.out_ f2217 f2210 w hM h2255 hV2218 hB2211 (hS.st.pick [1, 0, 2] (by kernel_rfl)))
        · refine wp_skip ?_
          refine then_n ?_
          refine wp_seq ?_
          refine wp_region_list ?_
          refine st1 hS (mv rfl) rfl fun a w hS => ?_
          refine s_call hS rfl Tryd.call53 (mortiseref07_Distance_c hG K x2251 (hS.st.part 0 [0, 1, 2, 3] (by kernel_rfl)) (wp_bind hM) (fun x2266 x2267 w hM  hst => s_back hS.ev hst.appF rfl fun hS => ?_))
          replace hS : Ss _ _ _ H [f2254, f2210, f2217, f2230] F _ _ := hS
          refine st1 hS (mv rfl) rfl fun a w hS => ?_
          refine st1 hS (ex rfl rfl) rfl fun a w hS => ?_
          refine st1 hS (ex rfl rfl) rfl fun a w hS => ?_
          refine st1 hS (asg rfl) rfl fun a w hS => ?_
          refine st1 hS (asg rfl) rfl fun a w hS => ?_
          refine wpList_nil ?_
          refine then_n ?_
          refine wp_seq ?_
          refine wp_region_list ?_
          refine st1 hS (mv rfl) rfl fun a w hS => ?_
          refine st1 hS (mv rfl) rfl fun a w hS => ?_
          refine st1 hS (mv rfl) rfl fun a w hS => ?_
          refine s_call hS rfl Tryd.call27 (mortiseref07_state_bits_c hG K (T_mortiseref07_state.mk (T_mortiseref05_Reader.mk s2208.r_.S_ at_2253) s2208.out_ s2208.limit_) x2267 x2266 b2209 f2210 b2212 f2254 A2215 c2216 f2217 hB2211 h2255 hV2218 (hS.st.part 3 [1, 0, 2, 3] (by kernel_rfl)) (wp_bind hM) (fun x2268 x2269 at_2270 f2271 w hM h2272 hst => s_back hS.ev hst.appF rfl fun hS => ?_))
          replace hS : Ss _ _ _ H [f2210, f2271, f2217, f2230] F _ _ := hS
          refine st1 hS (mv rfl) rfl fun a w hS => ?_
          refine st1 hS (ex rfl rfl) rfl fun a w hS => ?_
          refine st1 hS (ex rfl rfl) rfl fun a w hS => ?_
          refine st1 hS (asg rfl) rfl fun a w hS => ?_
          refine st1 hS (asg rfl) rfl fun a w hS => ?_
          refine wpList_nil ?_
          refine then_n ?_
          refine wp_seq ?_
          refine wp_seq ?_
          refine wp_region_list ?_
          refine st1 hS (mv rfl) rfl fun a w hS => ?_
          refine st1 hS (bin rfl rfl rfl) rfl fun a w hS => ?_
          refine wpList_nil ?_
          refine then_n ?_
          refine s_cond hS rfl hM (fun hb2273 hM => ?_) (fun hb2273 hM => ?_)
          · refine wp_seq ?_
            refine wp_region_list ?_
            refine st1 hS (mv rfl) rfl fun a w hS => ?_
            refine st1 hS (asg rfl) rfl fun a w hS => ?_
            refine wpList_nil ?_
            refine then_n ?_
            refine wp_ret ?_
            refine then_ret ?_
            exact s_ret (rs := [6]) hS rfl rfl (hret x2269 at_2270 f2271 A2215 c2216 s2208.out_ f2217 f2210 w hM h2272 hV2218 hB2211 (hS.st.pick [0, 1, 2] (by kernel_rfl)))
          · refine wp_skip ?_
            refine then_n ?_
            refine wp_seq ?_
            refine wp_seq ?_
            refine wp_region_list ?_
            refine st1 hS (mv rfl) rfl fun a w hS => ?_
            refine st1 hS (mv rfl) rfl fun a w hS => ?_
            refine st1 hS (nck rfl) rfl fun a w hS => ?_
            refine st1 hS (fad rfl Tryd.runUnderlying51 rfl Tryd.sizeOf30 rfl) rfl fun a w hS => ?_
            refine st1 hS (ldb 0 rfl hB2211 rfl rfl Tryd.isAgg30) rfl fun a w hS => ?_
            refine st1 hS (lenV rfl Tryd.runUnderlying30) rfl fun a w hS => ?_
            refine st1 hS (bin rfl rfl rfl) rfl fun a w hS => ?_
            refine wpList_nil ?_
            refine then_n ?_
            refine s_cond hS rfl hM (fun hb2274 hM => ?_) (fun hb2274 hM => ?_)
            · refine wp_seq ?_
              refine wp_region_list ?_
              refine st1 hS (asg rfl) rfl fun a w hS => ?_
              refine wpList_nil ?_
              refine then_n ?_
              refine wp_ret ?_
              refine then_ret ?_
              exact s_ret (rs := [6]) hS rfl rfl (hret (3 : Int) at_2270 f2271 A2215 c2216 s2208.out_ f2217 f2210 w hM h2272 hV2218 hB2211 (hS.st.pick [0, 1, 2] (by kernel_rfl)))
            · refine wp_skip ?_
              refine then_n ?_
              refine wp_seq ?_
              refine wp_seq ?_
              refine draw_begin (vals := [some (.int .i64 x2245), some (ptr b2209 0), some (ptr b2209 0), some (ptr b2209 2), some (.int .i64 s2208.limit_), some (ptr b2209 0), some (ptr b2209 0), some (ptr b2209 1), some (.slice A2215 s2208.out_.length c2216), some (.int .i64 (s2208.out_.length : Int)), some (.int .i64 (w64 (s2208.limit_ - (s2208.out_.length : Int)))), some (.bool (decide (x2245 > (w64 (s2208.limit_ - (s2208.out_.length : Int))))))]) hS mixed rfl ?_
              intro l w ho hcl hA hst
              refine phaseE (vals := [some (.int .i64 x2245), some (ptr b2209 0), some (ptr b2209 0), some (ptr b2209 2), some (.int .i64 s2208.limit_), some (ptr b2209 0), some (ptr b2209 0), some (ptr b2209 1), some (.slice A2215 s2208.out_.length c2216), some (.int .i64 (s2208.out_.length : Int)), some (.int .i64 (w64 (s2208.limit_ - (s2208.out_.length : Int)))), some (.bool (decide (x2245 > (w64 (s2208.limit_ - (s2208.out_.length : Int))))))]) [] [0, 1, 2, 3, 4, 5, 6, 7, 8, 9, 10, 11] rfl rfl rfl (by exact ⟨nR rfl rfl rfl rfl rfl (by exact ovE (mv rfl) rfl), nR rfl rfl rfl rfl rfl (by exact ovE (mv rfl) rfl), nR rfl rfl rfl rfl rfl (by exact ovE (nck rfl) rfl), nR rfl rfl rfl rfl rfl (by exact ovE (fad rfl Tryd.runUnderlying51 rfl Tryd.sizeOf3 rfl) rfl), nR rfl rfl rfl rfl rfl (by exact ovE (ldb 0 rfl hB2211 rfl rfl Tryd.isAgg3) rfl), nR rfl rfl rfl rfl rfl (by exact ovE (mv rfl) rfl), nR rfl rfl rfl rfl rfl (by exact ovE (nck rfl) rfl), nR rfl rfl rfl rfl rfl (by exact ovE (fad rfl Tryd.runUnderlying51 rfl Tryd.sizeOf30 rfl) rfl), nR rfl rfl rfl rfl rfl (by exact ovE (ldb 0 rfl hB2211 rfl rfl Tryd.isAgg30) rfl), nR rfl rfl rfl rfl rfl (by exact ovE (lenV rfl Tryd.runUnderlying30) rfl), nR rfl rfl rfl rfl rfl (by exact ovE (bin rfl rfl rfl) rfl), nR rfl rfl rfl rfl rfl (by exact ovE (bin rfl rfl rfl) rfl), trivial⟩) (fun a w hS => ?_) ho hcl (fun m hm => (List.not_mem_nil hm).elim) hA hst
              replace hS := hS.env2 (e' := [(0, ptr b2209 0), (9, .int .i64 x2245), (15, .int .i64 x2268), (85, .bool (decide (x2245 > (w64 (s2208.limit_ - (s2208.out_.length : Int))))))]) ⟨rfl, rfl, rfl, rfl, trivial⟩
              refine then_n ?_
              refine s_cond hS rfl hM (fun hb2275 hM => ?_) (fun hb2275 hM => ?_)
              · refine wp_seq ?_
                refine wp_region_list ?_
                refine st1 hS (asg rfl) rfl fun a w hS => ?_
                refine wpList_nil ?_
                refine then_n ?_
                refine wp_ret ?_
                refine then_ret ?_
                exact s_ret (rs := [6]) hS rfl rfl (hret (11 : Int) at_2270 f2271 A2215 c2216 s2208.out_ f2217 f2210 w hM h2272 hV2218 hB2211 (hS.st.pick [0, 1, 2] (by kernel_rfl)))
              · refine wp_skip ?_
                refine then_n ?_
                refine wp_seq ?_
                refine wp_seq ?_
                refine wp_region_list ?_
                refine st1 hS (asg rfl) rfl fun a w hS => ?_
                refine wpList_nil ?_
                refine then_n ?_
                refine wp_block ?_
                refine s_loopJ (fun k2310 a w => ∃ (A2302 : Option Addr) (c2303 : Nat) (out2304 : (List Int)) (f2305 : Frag) (f2307 : Frag) (i2309 : Int), Ss 113 [] [(0, ptr b2209 0), (9, .int .i64 x2245), (15, .int .i64 x2268), (17, .int .i64 i2309)] H [f2307, f2271, f2305] F a w ∧ (Vec 5 (ci .u8) 1 A2302 out2304 c2303 f2305) ∧ (Blk f2307 b2209 ([ptr b2212 0, .slice A2302 out2304.length c2303, .int .i64 s2208.limit_]) 51) ∧ (mortiseref07_state_match.l1 K x2245 x2268 at_2270 k2310 out2304 i2309).wp kr kp) K ?_ ?_ ?_
                · exact ⟨A2215, c2216, s2208.out_, f2217, f2210, (0 : Int), hS.to [0, 1, 2] (by kernel_rfl) ⟨rfl, rfl, rfl, rfl, trivial⟩, hV2218, hB2211, hM⟩
                · intro a w hI; obtain ⟨_, _, _, _, _, _, _, _, _, hM⟩ := hI; exact hM
                · intro k2310 a w hI J2327 hJ2327
                  obtain ⟨A2302, c2303, out2304, f2305, f2307, i2309, hS, hV2306, hB2308, hM⟩ := hI
                  rw [mortiseref07_state_match.l1] at hM
                  refine wp_seq ?_
                  refine wp_seq ?_
                  refine wp_region_list ?_
                  refine st1 hS (mv rfl) rfl fun a w hS => ?_
                  refine st1 hS (mv rfl) rfl fun a w hS => ?_
                  refine st1 hS (bin rfl rfl rfl) rfl fun a w hS => ?_
                  refine wpList_nil ?_
                  refine then_n ?_
                  refine s_cond hS rfl hM (fun hb2311 hM => ?_) (fun hb2311 hM => ?_)
                  · refine wp_skip ?_
                    refine then_n ?_
                    refine wp_seq ?_
                    refine wp_block ?_
                    obtain ⟨hk2313, hM⟩ := wp_chk hM
                    refine draw_begin (vals := [some (ptr b2209 0), some (ptr b2209 0), some (ptr b2209 0), some (ptr b2209 1), some (.slice A2302 out2304.length c2303), some (ptr b2209 0), some (ptr b2209 0), some (ptr b2209 1), some (.slice A2302 out2304.length c2303), some (ptr b2209 0), some (ptr b2209 0), some (ptr b2209 1), some (.slice A2302 out2304.length c2303), some (.int .i64 (out2304.length : Int)), some (.int .i64 x2268), some (.int .i64 (w64 ((out2304.length : Int) - x2268))), some (slp A2302 (Int.toNat (w64 ((out2304.length : Int) - x2268)) * 1)), some (.int .u8 (rd out2304 (w64 ((out2304.length : Int) - x2268)))), none, none, none, none, none]) hS mixed rfl ?_
                    intro l w ho hcl hA hst
                    refine phase' (vals := [some (ptr b2209 0), some (ptr b2209 0), some (ptr b2209 0), some (ptr b2209 1), some (.slice A2302 out2304.length c2303), some (ptr b2209 0), some (ptr b2209 0), some (ptr b2209 1), some (.slice A2302 out2304.length c2303), some (ptr b2209 0), some (ptr b2209 0), some (ptr b2209 1), some (.slice A2302 out2304.length c2303), some (.int .i64 (out2304.length : Int)), some (.int .i64 x2268), some (.int .i64 (w64 ((out2304.length : Int) - x2268))), some (slp A2302 (Int.toNat (w64 ((out2304.length : Int) - x2268)) * 1)), some (.int .u8 (rd out2304 (w64 ((out2304.length : Int) - x2268)))), none, none, none, none, none]) 18 [] [0, 1, 2, 3, 4, 5, 6, 7, 8, 9, 10, 11, 12, 13, 14, 15, 16, 17] rfl rfl rfl rfl (by exact ⟨nR rfl rfl rfl rfl rfl (by exact ovE (mv rfl) rfl), nR rfl rfl rfl rfl rfl (by exact ovE (mv rfl) rfl), nR rfl rfl rfl rfl rfl (by exact ovE (nck rfl) rfl), nR rfl rfl rfl rfl rfl (by exact ovE (fad rfl Tryd.runUnderlying51 rfl Tryd.sizeOf30 rfl) rfl), nR rfl rfl rfl rfl rfl (by exact ovE (ldb 0 rfl hB2308 rfl rfl Tryd.isAgg30) rfl), nR rfl rfl rfl rfl rfl (by exact ovE (mv rfl) rfl), nR rfl rfl rfl rfl rfl (by exact ovE (nck rfl) rfl), nR rfl rfl rfl rfl rfl (by exact ovE (fad rfl Tryd.runUnderlying51 rfl Tryd.sizeOf30 rfl) rfl), nR rfl rfl rfl rfl rfl (by exact ovE (ldb 0 rfl hB2308 rfl rfl Tryd.isAgg30) rfl), nR rfl rfl rfl rfl rfl (by exact ovE (mv rfl) rfl), nR rfl rfl rfl rfl rfl (by exact ovE (nck rfl) rfl), nR rfl rfl rfl rfl rfl (by exact ovE (fad rfl Tryd.runUnderlying51 rfl Tryd.sizeOf30 rfl) rfl), nR rfl rfl rfl rfl rfl (by exact ovE (ldb 0 rfl hB2308 rfl rfl Tryd.isAgg30) rfl), nR rfl rfl rfl rfl rfl (by exact ovE (lenV rfl Tryd.runUnderlying30) rfl), nR rfl rfl rfl rfl rfl (by exact ovE (mv rfl) rfl), nR rfl rfl rfl rfl rfl (by exact ovE (bin rfl rfl rfl) rfl), nR rfl rfl rfl rfl rfl (by exact ovE (ixV rfl rfl Tryd.runUnderlying30 Tryd.sizeOf5 (hV2306.rd (i := 2) rfl) (fun _ => rfl) rfl hk2313) rfl), nR rfl rfl rfl rfl rfl (by exact ovE (ldV0 rfl (hV2306.rd (i := 2) rfl) (fun _ => rfl) hk2313 rfl Tryd.isAgg5) rfl), trivial⟩) (fun D l a w ho hcl hav hpre hm hE hk hA hst => ?_) ho hcl (fun j hj => (List.not_mem_nil hj).elim) (fun m hm => (List.not_mem_nil hm).elim) List.not_mem_nil hA hst
                    have hS := (Ss.mk hE hst).env2 (e' := [(108, .int .u8 (rd out2304 (w64 ((out2304.length : Int) - x2268))))]) ⟨rfl, trivial⟩
                    refine op_of_nth rfl ?_
                    refine bsl (g := (ci .u8)) ([(rd out2304 (w64 ((out2304.length : Int) - x2268)))] : List Int) [.int .u8 (rd out2304 (w64 ((out2304.length : Int) - x2268)))] hS Tryd.runUnderlying30 Tryd.sizeOf5 X.el5 rfl rfl rfl (by simp [Value.cells]) rfl rfl rfl rfl rfl fun w A2314 c2315 f2316 hV2317 hS => ?_
                    refine wpList_nil (then_n ?_)
                    have hcl2 := hcl.cons (k := 18) (nth_get rfl) hpre
                    have hmust := must_cons (k := 18) hm (chain (k := 18) hcl (nth_get rfl) hpre [(17, 18), (16, 17), (8, 16), (15, 16), (7, 8), (13, 15), (14, 15), (6, 7), (12, 13), (5, 6), (11, 12), (10, 11), (9, 10)] [] rfl (fun _ h => absurd h List.not_mem_nil))
                    replace hst := hS.st
                    have hav2 := hav.cons (vals' := [some (ptr b2209 0), some (ptr b2209 0), some (ptr b2209 0), some (ptr b2209 1), some (.slice A2302 out2304.length c2303), some (ptr b2209 0), some (ptr b2209 0), some (ptr b2209 1), some (.slice A2302 out2304.length c2303), some (ptr b2209 0), some (ptr b2209 0), some (ptr b2209 1), some (.slice A2302 out2304.length c2303), some (.int .i64 (out2304.length : Int)), some (.int .i64 x2268), some (.int .i64 (w64 ((out2304.length : Int) - x2268))), some (slp A2302 (Int.toNat (w64 ((out2304.length : Int) - x2268)) * 1)), some (.int .u8 (rd out2304 (w64 ((out2304.length : Int) - x2268)))), some (.slice A2314 ([(rd out2304 (w64 ((out2304.length : Int) - x2268)))] : List Int).length c2315), none, none, none, none]) (k := 18) ⟨rfl, rfl, rfl, rfl, rfl, rfl, rfl, rfl, rfl, rfl, rfl, rfl, rfl, rfl, rfl, rfl, rfl, rfl, trivial⟩ rfl
                    replace hA := (hA.next hav (subV.get (l' := [some (ptr b2209 0), some (ptr b2209 0), some (ptr b2209 0), some (ptr b2209 1), some (.slice A2302 out2304.length c2303), some (ptr b2209 0), some (ptr b2209 0), some (ptr b2209 1), some (.slice A2302 out2304.length c2303), some (ptr b2209 0), some (ptr b2209 0), some (ptr b2209 1), some (.slice A2302 out2304.length c2303), some (.int .i64 (out2304.length : Int)), some (.int .i64 x2268), some (.int .i64 (w64 ((out2304.length : Int) - x2268))), some (slp A2302 (Int.toNat (w64 ((out2304.length : Int) - x2268)) * 1)), some (.int .u8 (rd out2304 (w64 ((out2304.length : Int) - x2268)))), some (.slice A2314 ([(rd out2304 (w64 ((out2304.length : Int) - x2268)))] : List Int).length c2315), none, none, none, none]) ⟨rfl, rfl, rfl, rfl, rfl, rfl, rfl, rfl, rfl, rfl, rfl, rfl, rfl, rfl, rfl, rfl, rfl, rfl, trivial⟩)).step rfl (nth_get rfl) hk rfl rfl rfl
                    clear hm hav
                    replace hcl := hcl2
                    refine phase' (vals := [some (ptr b2209 0), some (ptr b2209 0), some (ptr b2209 0), some (ptr b2209 1), some (.slice A2302 out2304.length c2303), some (ptr b2209 0), some (ptr b2209 0), some (ptr b2209 1), some (.slice A2302 out2304.length c2303), some (ptr b2209 0), some (ptr b2209 0), some (ptr b2209 1), some (.slice A2302 out2304.length c2303), some (.int .i64 (out2304.length : Int)), some (.int .i64 x2268), some (.int .i64 (w64 ((out2304.length : Int) - x2268))), some (slp A2302 (Int.toNat (w64 ((out2304.length : Int) - x2268)) * 1)), some (.int .u8 (rd out2304 (w64 ((out2304.length : Int) - x2268)))), some (.slice A2314 ([(rd out2304 (w64 ((out2304.length : Int) - x2268)))] : List Int).length c2315), none, none, none, none]) 19 [18, 17, 16, 8, 15, 7, 13, 14, 6, 12, 5, 11, 10, 9] [0, 1, 2, 3, 4] rfl rfl rfl rfl (by exact ⟨nR rfl rfl rfl rfl rfl (by exact ovE (mv rfl) rfl), nR rfl rfl rfl rfl rfl (by exact ovE (mv rfl) rfl), nR rfl rfl rfl rfl rfl (by exact ovE (nck rfl) rfl), nR rfl rfl rfl rfl rfl (by exact ovE (fad rfl Tryd.runUnderlying51 rfl Tryd.sizeOf30 rfl) rfl), nR rfl rfl rfl rfl rfl (by exact ovE (ldb 1 rfl hB2308 rfl rfl Tryd.isAgg30) rfl), trivial⟩) (fun D l a w ho hcl hav hpre hm hE hk hA hst => ?_) ho hcl hav2 hmust (hav2.notin rfl) hA hst
                    have hS := (Ss.mk hE hst).env2 (e' := [(95, .slice A2302 out2304.length c2303), (109, .slice A2314 ([(rd out2304 (w64 ((out2304.length : Int) - x2268)))] : List Int).length c2315)]) ⟨rfl, rfl, trivial⟩
                    refine op_of_nth rfl ?_
                    obtain ⟨hk2318, hM⟩ := wp_chk hM
                    refine apV (ys := ([(rd out2304 (w64 ((out2304.length : Int) - x2268)))] : List Int)) 3 hS rfl rfl hV2306 rfl (hV2317.rd (i := 0) rfl) Tryd.runUnderlying30 Tryd.runUnderlying30 X.el5 (fun _ => rfl) rfl one_t5 hk2318 rfl fun zs2323 w A2319 c2320 f2321 hz hV2322 hS => ?_
                    have hM := lt_to hz hM; clear hz
                    refine wpList_nil (then_n ?_)
                    have hcl2 := hcl.cons (k := 19) (nth_get rfl) hpre
                    have hmust := must_cons (k := 19) hm (chain (k := 19) hcl (nth_get rfl) hpre [(4, 19), (18, 19), (3, 4), (17, 18), (2, 3), (16, 17), (1, 2), (8, 16), (15, 16), (7, 8), (13, 15), (14, 15), (6, 7), (12, 13), (5, 6), (11, 12), (10, 11), (9, 10)] [] rfl (fun _ h => absurd h List.not_mem_nil))
                    replace hst := hS.st
                    have hav2 := hav.cons (vals' := [some (ptr b2209 0), some (ptr b2209 0), some (ptr b2209 0), some (ptr b2209 1), some (.slice A2302 out2304.length c2303), some (ptr b2209 0), some (ptr b2209 0), some (ptr b2209 1), some (.slice A2302 out2304.length c2303), some (ptr b2209 0), some (ptr b2209 0), some (ptr b2209 1), some (.slice A2302 out2304.length c2303), some (.int .i64 (out2304.length : Int)), some (.int .i64 x2268), some (.int .i64 (w64 ((out2304.length : Int) - x2268))), some (slp A2302 (Int.toNat (w64 ((out2304.length : Int) - x2268)) * 1)), some (.int .u8 (rd out2304 (w64 ((out2304.length : Int) - x2268)))), some (.slice A2314 ([(rd out2304 (w64 ((out2304.length : Int) - x2268)))] : List Int).length c2315), some (.slice A2319 zs2323.length c2320), some (ptr b2209 0), some (ptr b2209 1), none]) (k := 19) ⟨rfl, rfl, rfl, rfl, rfl, rfl, rfl, rfl, rfl, rfl, rfl, rfl, rfl, rfl, rfl, rfl, rfl, rfl, rfl, trivial⟩ rfl
                    replace hA := (hA.next hav (subV.get (l' := [some (ptr b2209 0), some (ptr b2209 0), some (ptr b2209 0), some (ptr b2209 1), some (.slice A2302 out2304.length c2303), some (ptr b2209 0), some (ptr b2209 0), some (ptr b2209 1), some (.slice A2302 out2304.length c2303), some (ptr b2209 0), some (ptr b2209 0), some (ptr b2209 1), some (.slice A2302 out2304.length c2303), some (.int .i64 (out2304.length : Int)), some (.int .i64 x2268), some (.int .i64 (w64 ((out2304.length : Int) - x2268))), some (slp A2302 (Int.toNat (w64 ((out2304.length : Int) - x2268)) * 1)), some (.int .u8 (rd out2304 (w64 ((out2304.length : Int) - x2268)))), some (.slice A2314 ([(rd out2304 (w64 ((out2304.length : Int) - x2268)))] : List Int).length c2315), some (.slice A2319 zs2323.length c2320), some (ptr b2209 0), some (ptr b2209 1), none]) ⟨rfl, rfl, rfl, rfl, rfl, rfl, rfl, rfl, rfl, rfl, rfl, rfl, rfl, rfl, rfl, rfl, rfl, rfl, rfl, trivial⟩)).step rfl (nth_get rfl) hk rfl rfl rfl
                    clear hm hav
                    replace hcl := hcl2
                    refine phase' (vals := [some (ptr b2209 0), some (ptr b2209 0), some (ptr b2209 0), some (ptr b2209 1), some (.slice A2302 out2304.length c2303), some (ptr b2209 0), some (ptr b2209 0), some (ptr b2209 1), some (.slice A2302 out2304.length c2303), some (ptr b2209 0), some (ptr b2209 0), some (ptr b2209 1), some (.slice A2302 out2304.length c2303), some (.int .i64 (out2304.length : Int)), some (.int .i64 x2268), some (.int .i64 (w64 ((out2304.length : Int) - x2268))), some (slp A2302 (Int.toNat (w64 ((out2304.length : Int) - x2268)) * 1)), some (.int .u8 (rd out2304 (w64 ((out2304.length : Int) - x2268)))), some (.slice A2314 ([(rd out2304 (w64 ((out2304.length : Int) - x2268)))] : List Int).length c2315), some (.slice A2319 zs2323.length c2320), some (ptr b2209 0), some (ptr b2209 1), none]) 22 [19, 4, 18, 3, 17, 2, 16, 1, 8, 15, 7, 13, 14, 6, 12, 5, 11, 10, 9, 18, 17, 16, 8, 15, 7, 13, 14, 6, 12, 5, 11, 10, 9] [0, 20, 21] rfl rfl rfl rfl (by exact ⟨nR rfl rfl rfl rfl rfl (by exact ovE (mv rfl) rfl), nR rfl rfl rfl rfl rfl (by exact ovE (nck rfl) rfl), nR rfl rfl rfl rfl rfl (by exact ovE (fad rfl Tryd.runUnderlying51 rfl Tryd.sizeOf30 rfl) rfl), trivial⟩) (fun D l a w ho hcl hav hpre hm hE hk hA hst => ?_) ho hcl hav2 hmust (hav2.notin rfl) hA hst
                    have hS := (Ss.mk hE hst).env2 (e' := [(110, .slice A2319 zs2323.length c2320), (112, ptr b2209 1)]) ⟨rfl, rfl, trivial⟩
                    refine op_of_nth rfl ?_
                    refine sto 1 ([ptr b2212 0, .slice A2319 zs2323.length c2320, .int .i64 s2208.limit_]) hS rfl rfl hB2308 rfl rfl rfl rfl Tryd.sizeOf30 fun w f2324 hB2325 hS => ?_
                    refine wpList_nil (then_n ?_)
                    have hcl2 := hcl.cons (k := 22) (nth_get rfl) hpre
                    have hmust := must_cons (k := 22) hm (chain (k := 22) hcl (nth_get rfl) hpre [(0, 22), (1, 22), (2, 22), (3, 22), (4, 22), (5, 22), (6, 22), (7, 22), (8, 22), (9, 22), (10, 22), (11, 22), (12, 22), (13, 22), (14, 22), (15, 22), (16, 22), (17, 22), (18, 22), (19, 22), (21, 22), (20, 21)] [] rfl (fun _ h => absurd h List.not_mem_nil))
                    replace hst := hS.st
                    have hav2 := hav.cons (vals' := [some (ptr b2209 0), some (ptr b2209 0), some (ptr b2209 0), some (ptr b2209 1), some (.slice A2302 out2304.length c2303), some (ptr b2209 0), some (ptr b2209 0), some (ptr b2209 1), some (.slice A2302 out2304.length c2303), some (ptr b2209 0), some (ptr b2209 0), some (ptr b2209 1), some (.slice A2302 out2304.length c2303), some (.int .i64 (out2304.length : Int)), some (.int .i64 x2268), some (.int .i64 (w64 ((out2304.length : Int) - x2268))), some (slp A2302 (Int.toNat (w64 ((out2304.length : Int) - x2268)) * 1)), some (.int .u8 (rd out2304 (w64 ((out2304.length : Int) - x2268)))), some (.slice A2314 ([(rd out2304 (w64 ((out2304.length : Int) - x2268)))] : List Int).length c2315), some (.slice A2319 zs2323.length c2320), some (ptr b2209 0), some (ptr b2209 1), some undef]) (k := 22) ⟨rfl, rfl, rfl, rfl, rfl, rfl, rfl, rfl, rfl, rfl, rfl, rfl, rfl, rfl, rfl, rfl, rfl, rfl, rfl, rfl, rfl, rfl, trivial⟩ rfl
                    replace hA := (hA.next hav (subV.get (l' := [some (ptr b2209 0), some (ptr b2209 0), some (ptr b2209 0), some (ptr b2209 1), some (.slice A2302 out2304.length c2303), some (ptr b2209 0), some (ptr b2209 0), some (ptr b2209 1), some (.slice A2302 out2304.length c2303), some (ptr b2209 0), some (ptr b2209 0), some (ptr b2209 1), some (.slice A2302 out2304.length c2303), some (.int .i64 (out2304.length : Int)), some (.int .i64 x2268), some (.int .i64 (w64 ((out2304.length : Int) - x2268))), some (slp A2302 (Int.toNat (w64 ((out2304.length : Int) - x2268)) * 1)), some (.int .u8 (rd out2304 (w64 ((out2304.length : Int) - x2268)))), some (.slice A2314 ([(rd out2304 (w64 ((out2304.length : Int) - x2268)))] : List Int).length c2315), some (.slice A2319 zs2323.length c2320), some (ptr b2209 0), some (ptr b2209 1), some undef]) ⟨rfl, rfl, rfl, rfl, rfl, rfl, rfl, rfl, rfl, rfl, rfl, rfl, rfl, rfl, rfl, rfl, rfl, rfl, rfl, rfl, rfl, rfl, trivial⟩)).stepN (i := 22) (nth_get rfl) rfl
                    clear hm hav
                    replace hcl := hcl2
                    refine phaseE (vals := [some (ptr b2209 0), some (ptr b2209 0), some (ptr b2209 0), some (ptr b2209 1), some (.slice A2302 out2304.length c2303), some (ptr b2209 0), some (ptr b2209 0), some (ptr b2209 1), some (.slice A2302 out2304.length c2303), some (ptr b2209 0), some (ptr b2209 0), some (ptr b2209 1), some (.slice A2302 out2304.length c2303), some (.int .i64 (out2304.length : Int)), some (.int .i64 x2268), some (.int .i64 (w64 ((out2304.length : Int) - x2268))), some (slp A2302 (Int.toNat (w64 ((out2304.length : Int) - x2268)) * 1)), some (.int .u8 (rd out2304 (w64 ((out2304.length : Int) - x2268)))), some (.slice A2314 ([(rd out2304 (w64 ((out2304.length : Int) - x2268)))] : List Int).length c2315), some (.slice A2319 zs2323.length c2320), some (ptr b2209 0), some (ptr b2209 1), some undef]) [22, 0, 1, 2, 3, 4, 5, 6, 7, 8, 9, 10, 11, 12, 13, 14, 15, 16, 17, 18, 19, 21, 20, 19, 4, 18, 3, 17, 2, 16, 1, 8, 15, 7, 13, 14, 6, 12, 5, 11, 10, 9, 18, 17, 16, 8, 15, 7, 13, 14, 6, 12, 5, 11, 10, 9] [] rfl rfl rfl trivial (fun a w hS => ?_) ho hcl hmust hA hst
                    replace hS := hS.env2 (e' := [(0, ptr b2209 0), (9, .int .i64 x2245), (15, .int .i64 x2268), (17, .int .i64 i2309)]) ⟨rfl, rfl, rfl, rfl, trivial⟩
                    refine blk_n (then_n ?_)
                    refine wp_region_list ?_
                    refine st1 hS (mv rfl) rfl fun a w hS => ?_
                    refine st1 hS (bin rfl rfl rfl) rfl fun a w hS => ?_
                    refine st1x (v := Value.int .i64) hS (asg rfl) rfl fun i2326 a w hz hS => ?_
                    have hM := lt_to hz hM; clear hz
                    refine wpList_nil ?_
                    refine then_n ?_
                    exact hJ2327 _ _ ⟨A2319, c2320, zs2323, f2321, f2324, i2326, hS.to [1, 2, 3] (by kernel_rfl) ⟨rfl, rfl, rfl, rfl, trivial⟩, hV2322, hB2325, hM⟩
                  · refine wp_exit ?_
                    refine then_ex (then_ex (blk_same (then_n ?_)))
                    refine wp_seq ?_
                    refine wp_region_list ?_
                    refine st1 hS (asg rfl) rfl fun a w hS => ?_
                    refine wpList_nil ?_
                    refine then_n ?_
                    refine wp_ret ?_
                    exact s_ret (rs := [6]) hS rfl rfl (hret (0 : Int) at_2270 f2271 A2302 c2303 out2304 f2305 f2307 w hM h2272 hV2306 hB2308 (hS.st.pick [0, 1, 2] (by kernel_rfl)))

theorem mortiseref07_state_symbols_c {H : Imm} {F : List Frag} {w : World} {R : Ending → World → Prop} {kr : (Int × Int × (List Int)) → Prop} {kp : Value → Prop} (hG : Gl H) (K : Nat) (s2037 : T_mortiseref07_state) (literals2048 : T_mortiseref07_code) (distances2057 : T_mortiseref07_code) (b2038 : Nat) (f2039 : Frag) (b2041 : Nat) (f2042 : Frag) (A2044 : Option Addr) (c2045 : Nat) (f2046 : Frag) (A2049 : Option Addr) (c2050 : Nat) (A2053 : Option Addr) (c2054 : Nat) (A2058 : Option Addr) (c2059 : Nat) (A2062 : Option Addr) (c2063 : Nat) (hB2040 : Blk f2039 b2038 ([ptr b2041 0, .slice A2044 s2037.out_.length c2045, .int .i64 s2037.limit_]) 51) (hB2043 : Blk f2042 b2041 ([str s2037.r_.S_, .int .i64 s2037.r_.At_]) 49) (hV2047 : Vec 5 (ci .u8) 1 A2044 s2037.out_ c2045 f2046) (hr2051 : Rdl H [] F (ci .i64) A2049 literals2048.l_) (hc2052 : literals2048.l_.length ≤ c2050) (hr2055 : Rdl H [] F (ci .i64) A2053 literals2048.codes_) (hc2056 : literals2048.codes_.length ≤ c2054) (hr2060 : Rdl H [] F (ci .i64) A2058 distances2057.l_) (hc2061 : distances2057.l_.length ≤ c2059) (hr2064 : Rdl H [] F (ci .i64) A2062 distances2057.codes_) (hc2065 : distances2057.codes_.length ≤ c2063)
    (hS : St w H [f2039, f2042, f2046] F) (hm : (mortiseref07_state_symbols.m K s2037 literals2048 distances2057).wp kr kp)
    (hret : ∀ (x2406 : Int) (at_2407 : Int) (f2408 : Frag) (A2410 : Option Addr) (c2411 : Nat) (out2412 : (List Int)) (f2413 : Frag) (f2415 : Frag) (w : World), kr (x2406, at_2407, out2412) → (Blk f2408 b2041 ([str s2037.r_.S_, .int .i64 at_2407]) 49) → (Vec 5 (ci .u8) 1 A2410 out2412 c2411 f2413) → (Blk f2415 b2038 ([ptr b2041 0, .slice A2410 out2412.length c2411, .int .i64 s2037.limit_]) 51) → St w H [f2415, f2408, f2413] F → R (.returned (.int .i64 x2406)) w) :
    Calls Tryd.prog 31 ⟨[ptr b2038 0, .agg ⟨[.slice A2049 literals2048.l_.length c2050, .slice A2053 literals2048.codes_.length c2054]⟩, .agg ⟨[.slice A2058 distances2057.l_.length c2059, .slice A2062 distances2057.codes_.length c2063]⟩]⟩ w R := by
  refine enter Tryd.func31 rfl Tryd.ntmps31 rfl hS fun a w hS => ?_
  have hM := hm; clear hm
  rw [mortiseref07_state_symbols.m] at hM
  refine wp_seq ?_
  refine wp_region_list ?_
  refine bx ([.slice A2049 literals2048.l_.length c2050, .slice A2053 literals2048.codes_.length c2054]) hS rfl rfl rfl fun w b2066 f2067 hB2068 hS => ?_
  refine bx ([.slice A2058 distances2057.l_.length c2059, .slice A2062 distances2057.codes_.length c2063]) hS rfl rfl rfl fun w b2069 f2070 hB2071 hS => ?_
  refine st1 hS (asg rfl) rfl fun a w hS => ?_
  refine wpList_nil ?_
  refine then_n ?_
  refine wp_block ?_
  refine s_loopJ (fun k2371 a w => ∃ (at_2361 : Int) (f2362 : Frag) (A2364 : Option Addr) (c2365 : Nat) (out2366 : (List Int)) (f2367 : Frag) (f2369 : Frag), Ss 57 [] [(0, ptr b2038 0), (4, ptr b2066 0), (5, ptr b2069 0)] H [f2369, f2362, f2367, f2067, f2070] F a w ∧ (Blk f2362 b2041 ([str s2037.r_.S_, .int .i64 at_2361]) 49) ∧ (Vec 5 (ci .u8) 1 A2364 out2366 c2365 f2367) ∧ (Blk f2369 b2038 ([ptr b2041 0, .slice A2364 out2366.length c2365, .int .i64 s2037.limit_]) 51) ∧ (mortiseref07_state_symbols.l1 K s2037 literals2048 distances2057 k2371 at_2361 out2366).wp kr kp) K ?_ ?_ ?_
  · exact ⟨s2037.r_.At_, f2042, A2044, c2045, s2037.out_, f2046, f2039, hS.to [2, 3, 4, 1, 0] (by kernel_rfl) ⟨rfl, rfl, rfl, trivial⟩, hB2043, hV2047, hB2040, hM⟩
  · intro a w hI; obtain ⟨_, _, _, _, _, _, _, _, _, _, _, hM⟩ := hI; exact hM
  · intro k2371 a w hI J2405 hJ2405
    obtain ⟨at_2361, f2362, A2364, c2365, out2366, f2367, f2369, hS, hB2363, hV2368, hB2370, hM⟩ := hI
    rw [mortiseref07_state_symbols.l1] at hM
    refine wp_block ?_
    refine wp_seq ?_
    refine draw_begin (vals := [some (ptr b2066 0), some (.slice A2049 literals2048.l_.length c2050), some (ptr b2066 1), some (.slice A2053 literals2048.codes_.length c2054), some (ptr b2038 0), some (ptr b2038 0), some (ptr b2038 0), some (ptr b2041 0), none, none, none, none, none, none]) hS mixed rfl ?_
    intro l w ho hcl hA hst
    refine phase' (vals := [some (ptr b2066 0), some (.slice A2049 literals2048.l_.length c2050), some (ptr b2066 1), some (.slice A2053 literals2048.codes_.length c2054), some (ptr b2038 0), some (ptr b2038 0), some (ptr b2038 0), some (ptr b2041 0), none, none, none, none, none, none]) 8 [] [0, 1, 2, 3, 4, 5, 6, 7] rfl rfl rfl rfl (by exact ⟨nR rfl rfl rfl rfl rfl (by exact ovE (fad rfl Tryd.runUnderlying71 rfl Tryd.sizeOf67 rfl) rfl), nR rfl rfl rfl rfl rfl (by exact ovE (ldb 3 rfl hB2068 rfl rfl Tryd.isAgg67) rfl), nR rfl rfl rfl rfl rfl (by exact ovE (fad rfl Tryd.runUnderlying71 rfl Tryd.sizeOf67 rfl) rfl), nR rfl rfl rfl rfl rfl (by exact ovE (ldb 3 rfl hB2068 rfl rfl Tryd.isAgg67) rfl), nR rfl rfl rfl rfl rfl (by exact ovE (mv rfl) rfl), nR rfl rfl rfl rfl rfl (by exact ovE (nck rfl) rfl), nR rfl rfl rfl rfl rfl (by exact ovE (fad rfl Tryd.runUnderlying51 rfl Tryd.sizeOf47 rfl) rfl), nR rfl rfl rfl rfl rfl (by exact ovE (ldb 0 rfl hB2370 rfl rfl Tryd.isAgg47) rfl), trivial⟩) (fun D l a w ho hcl hav hpre hm hE hk hA hst => ?_) ho hcl (fun j hj => (List.not_mem_nil hj).elim) (fun m hm => (List.not_mem_nil hm).elim) List.not_mem_nil hA hst
    have hS := (Ss.mk hE hst).env2 (e' := [(12, .slice A2049 literals2048.l_.length c2050), (14, .slice A2053 literals2048.codes_.length c2054), (18, ptr b2041 0)]) ⟨rfl, rfl, rfl, trivial⟩
    refine op_of_nth rfl ?_
    refine s_call hS rfl Tryd.call43 (mortiseref06_Next_c hG K literals2048.l_ literals2048.codes_ (T_mortiseref05_Reader.mk s2037.r_.S_ at_2361) A2049 c2050 A2053 c2054 b2041 f2362 (hr2051.app _) hc2052 (hr2055.app _) hc2056 hB2363 (hS.st.part 1 [1, 0, 2, 3, 4] (by kernel_rfl)) (wp_bind hM) (fun x2372 x2373 at_2374 f2375 w hM h2376 hst => s_back hS.ev hst.appF rfl fun hS => ?_))
    replace hS : Ss _ _ _ H [f2375, f2369, f2367, f2067, f2070] F _ _ := hS
    refine wpList_nil (then_n ?_)
    have hcl2 := hcl.cons (k := 8) (nth_get rfl) hpre
    have hmust := must_cons (k := 8) hm (chain (k := 8) hcl (nth_get rfl) hpre [(1, 8), (3, 8), (7, 8), (0, 1), (2, 3), (6, 7), (5, 6), (4, 5)] [] rfl (fun _ h => absurd h List.not_mem_nil))
    replace hst := hS.st
    have hav2 := hav.cons (vals' := [some (ptr b2066 0), some (.slice A2049 literals2048.l_.length c2050), some (ptr b2066 1), some (.slice A2053 literals2048.codes_.length c2054), some (ptr b2038 0), some (ptr b2038 0), some (ptr b2038 0), some (ptr b2041 0), some (.tuple ⟨[.int .i64 x2372, .int .i64 x2373]⟩), some (.tuple ⟨[.int .i64 x2372, .int .i64 x2373]⟩), some (.int .i64 x2372), some (.int .i64 x2373), some (.int .i64 x2372), some (.int .i64 x2373)]) (k := 8) ⟨rfl, rfl, rfl, rfl, rfl, rfl, rfl, rfl, trivial⟩ rfl
    replace hA := (hA.next hav (subV.get (l' := [some (ptr b2066 0), some (.slice A2049 literals2048.l_.length c2050), some (ptr b2066 1), some (.slice A2053 literals2048.codes_.length c2054), some (ptr b2038 0), some (ptr b2038 0), some (ptr b2038 0), some (ptr b2041 0), some (.tuple ⟨[.int .i64 x2372, .int .i64 x2373]⟩), some (.tuple ⟨[.int .i64 x2372, .int .i64 x2373]⟩), some (.int .i64 x2372), some (.int .i64 x2373), some (.int .i64 x2372), some (.int .i64 x2373)]) ⟨rfl, rfl, rfl, rfl, rfl, rfl, rfl, rfl, trivial⟩)).step rfl (nth_get rfl) hk rfl rfl rfl
    clear hm hav
    replace hcl := hcl2
    refine phaseE (vals := [some (ptr b2066 0), some (.slice A2049 literals2048.l_.length c2050), some (ptr b2066 1), some (.slice A2053 literals2048.codes_.length c2054), some (ptr b2038 0), some (ptr b2038 0), some (ptr b2038 0), some (ptr b2041 0), some (.tuple ⟨[.int .i64 x2372, .int .i64 x2373]⟩), some (.tuple ⟨[.int .i64 x2372, .int .i64 x2373]⟩), some (.int .i64 x2372), some (.int .i64 x2373), some (.int .i64 x2372), some (.int .i64 x2373)]) [8, 1, 3, 7, 0, 2, 6, 5, 4] [9, 10, 11, 12, 13] rfl rfl rfl (by exact ⟨nR rfl rfl rfl rfl rfl (by exact ovE (mv rfl) rfl), nR rfl rfl rfl rfl rfl (by exact ovE (ex rfl rfl) rfl), nR rfl rfl rfl rfl rfl (by exact ovE (ex rfl rfl) rfl), nR rfl rfl rfl rfl rfl (by exact ovE (asg rfl) rfl), nR rfl rfl rfl rfl rfl (by exact ovE (asg rfl) rfl), trivial⟩) (fun a w hS => ?_) ho hcl hmust hA hst
    replace hS := hS.env2 (e' := [(0, ptr b2038 0), (4, ptr b2066 0), (5, ptr b2069 0), (7, .int .i64 x2372), (8, .int .i64 x2373)]) ⟨rfl, rfl, rfl, rfl, rfl, trivial⟩
    refine then_n ?_
    refine wp_seq ?_
    refine wp_seq ?_
    refine wp_region_list ?_
    refine st1 hS (mv rfl) rfl fun a w hS => ?_
    refine st1 hS (bin rfl rfl rfl) rfl fun a w hS => ?_
    refine wpList_nil ?_
    refine then_n ?_
    refine s_cond hS rfl hM (fun hb2377 hM => ?_) (fun hb2377 hM => ?_)
    · refine wp_seq ?_
      refine wp_region_list ?_
      refine st1 hS (mv rfl) rfl fun a w hS => ?_
      refine st1 hS (asg rfl) rfl fun a w hS => ?_
      refine wpList_nil ?_
      refine then_n ?_
      refine wp_ret ?_
      refine then_ret (blk_ret (then_ret (blk_ret ?_)))
      exact s_ret (rs := [6]) hS rfl rfl (hret x2373 at_2374 f2375 A2364 c2365 out2366 f2367 f2369 w hM h2376 hV2368 hB2370 (hS.st.pick [1, 0, 2] (by kernel_rfl)))
    · refine wp_skip ?_
      refine then_n ?_
      refine wp_seq ?_
      refine wp_seq ?_
      refine wp_region_list ?_
      refine st1 hS (mv rfl) rfl fun a w hS => ?_
      refine st1 hS (bin rfl rfl rfl) rfl fun a w hS => ?_
      refine wpList_nil ?_
      refine then_n ?_
      refine s_cond hS rfl hM (fun hb2378 hM => ?_) (fun hb2378 hM => ?_)
      · refine wp_seq ?_
        refine wp_region_list ?_
        refine st1 hS (asg rfl) rfl fun a w hS => ?_
        refine wpList_nil ?_
        refine then_n ?_
        refine wp_ret ?_
        refine then_ret (blk_ret (then_ret (blk_ret ?_)))
        exact s_ret (rs := [6]) hS rfl rfl (hret (0 : Int) at_2374 f2375 A2364 c2365 out2366 f2367 f2369 w hM h2376 hV2368 hB2370 (hS.st.pick [1, 0, 2] (by kernel_rfl)))
      · refine wp_skip ?_
        refine then_n ?_
        refine wp_seq ?_
        refine wp_seq ?_
        refine wp_region_list ?_
        refine st1 hS (mv rfl) rfl fun a w hS => ?_
        refine st1 hS (bin rfl rfl rfl) rfl fun a w hS => ?_
        refine wpList_nil ?_
        refine then_n ?_
        refine s_cond hS rfl hM (fun hb2379 hM => ?_) (fun hb2379 hM => ?_)
        · refine wp_seq ?_
          refine wp_seq ?_
          refine draw_begin (vals := [some (ptr b2038 0), some (ptr b2038 0), some (ptr b2038 1), some (.slice A2364 out2366.length c2365), some (.int .i64 (out2366.length : Int)), some (ptr b2038 0), some (ptr b2038 0), some (ptr b2038 2), some (.int .i64 s2037.limit_), some (.bool (decide ((out2366.length : Int) ≥ s2037.limit_)))]) hS mixed rfl ?_
          intro l w ho hcl hA hst
          refine phaseE (vals := [some (ptr b2038 0), some (ptr b2038 0), some (ptr b2038 1), some (.slice A2364 out2366.length c2365), some (.int .i64 (out2366.length : Int)), some (ptr b2038 0), some (ptr b2038 0), some (ptr b2038 2), some (.int .i64 s2037.limit_), some (.bool (decide ((out2366.length : Int) ≥ s2037.limit_)))]) [] [0, 1, 2, 3, 4, 5, 6, 7, 8, 9] rfl rfl rfl (by exact ⟨nR rfl rfl rfl rfl rfl (by exact ovE (mv rfl) rfl), nR rfl rfl rfl rfl rfl (by exact ovE (nck rfl) rfl), nR rfl rfl rfl rfl rfl (by exact ovE (fad rfl Tryd.runUnderlying51 rfl Tryd.sizeOf30 rfl) rfl), nR rfl rfl rfl rfl rfl (by exact ovE (ldb 1 rfl hB2370 rfl rfl Tryd.isAgg30) rfl), nR rfl rfl rfl rfl rfl (by exact ovE (lenV rfl Tryd.runUnderlying30) rfl), nR rfl rfl rfl rfl rfl (by exact ovE (mv rfl) rfl), nR rfl rfl rfl rfl rfl (by exact ovE (nck rfl) rfl), nR rfl rfl rfl rfl rfl (by exact ovE (fad rfl Tryd.runUnderlying51 rfl Tryd.sizeOf3 rfl) rfl), nR rfl rfl rfl rfl rfl (by exact ovE (ldb 1 rfl hB2370 rfl rfl Tryd.isAgg3) rfl), nR rfl rfl rfl rfl rfl (by exact ovE (bin rfl rfl rfl) rfl), trivial⟩) (fun a w hS => ?_) ho hcl (fun m hm => (List.not_mem_nil hm).elim) hA hst
          replace hS := hS.env2 (e' := [(0, ptr b2038 0), (4, ptr b2066 0), (5, ptr b2069 0), (7, .int .i64 x2372), (38, .bool (decide ((out2366.length : Int) ≥ s2037.limit_)))]) ⟨rfl, rfl, rfl, rfl, rfl, trivial⟩
          refine then_n ?_
          refine s_cond hS rfl hM (fun hb2380 hM => ?_) (fun hb2380 hM => ?_)
          · refine wp_seq ?_
            refine wp_region_list ?_
            refine st1 hS (asg rfl) rfl fun a w hS => ?_
            refine wpList_nil ?_
            refine then_n ?_
            refine wp_ret ?_
            refine then_ret (then_ret (blk_ret (then_ret (blk_ret ?_))))
            exact s_ret (rs := [6]) hS rfl rfl (hret (11 : Int) at_2374 f2375 A2364 c2365 out2366 f2367 f2369 w hM h2376 hV2368 hB2370 (hS.st.pick [1, 0, 2] (by kernel_rfl)))
          · refine wp_skip ?_
            refine then_n ?_
            refine wp_seq ?_
            refine wp_region_list ?_
            refine st1 hS (mv rfl) rfl fun a w hS => ?_
            refine st1 hS (mv rfl) rfl fun a w hS => ?_
            refine st1 hS (nck rfl) rfl fun a w hS => ?_
            refine st1 hS (fad rfl Tryd.runUnderlying51 rfl Tryd.sizeOf30 rfl) rfl fun a w hS => ?_
            refine st1 hS (ldb 1 rfl hB2370 rfl rfl Tryd.isAgg30) rfl fun a w hS => ?_
            refine st1 hS (mv rfl) rfl fun a w hS => ?_
            refine st1 hS (cvi rfl Tryd.runUnderlying3 Tryd.runUnderlying5) rfl fun a w hS => ?_
            refine bsl (g := (ci .u8)) ([(wr .u8 x2372)] : List Int) [.int .u8 (wr .u8 x2372)] hS Tryd.runUnderlying30 Tryd.sizeOf5 X.el5 rfl rfl rfl (by simp [Value.cells]) rfl rfl rfl rfl rfl fun w A2381 c2382 f2383 hV2384 hS => ?_
            obtain ⟨hk2385, hM⟩ := wp_chk hM
            refine apV (ys := ([(wr .u8 x2372)] : List Int)) 3 hS rfl rfl hV2368 rfl (hV2384.rd (i := 0) rfl) Tryd.runUnderlying30 Tryd.runUnderlying30 X.el5 (fun _ => rfl) rfl one_t5 hk2385 rfl fun zs2390 w A2386 c2387 f2388 hz hV2389 hS => ?_
            have hM := lt_to hz hM; clear hz
            refine st1 hS (nck rfl) rfl fun a w hS => ?_
            refine st1 hS (fad rfl Tryd.runUnderlying51 rfl Tryd.sizeOf30 rfl) rfl fun a w hS => ?_
            refine sto 2 ([ptr b2041 0, .slice A2386 zs2390.length c2387, .int .i64 s2037.limit_]) hS rfl rfl hB2370 rfl rfl rfl rfl Tryd.sizeOf30 fun w f2391 hB2392 hS => ?_
            refine wpList_nil ?_
            refine then_n ?_
            refine wp_exit ?_
            refine then_ex (blk_same (then_n ?_))
            exact hJ2405 _ _ ⟨at_2374, f2375, A2386, c2387, zs2390, f2388, f2391, hS.to [2, 1, 3, 4, 5] (by kernel_rfl) ⟨rfl, rfl, rfl, trivial⟩, h2376, hV2389, hB2392, hM⟩
        · refine wp_skip ?_
          refine then_n ?_
          refine wp_seq ?_
          refine wp_region_list ?_
          refine st1 hS (mv rfl) rfl fun a w hS => ?_
          refine st1 hS (mv rfl) rfl fun a w hS => ?_
          refine st1 hS (ldbA 4 rfl hB2071 rfl ([.slice A2058 distances2057.l_.length c2059, .slice A2062 distances2057.codes_.length c2063]) rfl rfl Tryd.isAgg71 Tryd.sizeOf71) rfl fun a w hS => ?_
          refine s_call hS rfl Tryd.call44 (mortiseref07_state_match_c hG K (T_mortiseref07_state.mk (T_mortiseref05_Reader.mk s2037.r_.S_ at_2374) out2366 s2037.limit_) x2372 distances2057 b2038 f2369 b2041 f2375 A2364 c2365 f2367 A2058 c2059 A2062 c2063 hB2370 h2376 hV2368 (hr2060.app _) hc2061 (hr2064.app _) hc2065 (hS.st.part 3 [1, 0, 2, 3, 4] (by kernel_rfl)) (wp_bind hM) (fun x2393 at_2394 f2395 A2396 c2397 out2398 f2399 f2400 w hM h2401 h2402 h2403 hst => s_back hS.ev hst.appF rfl fun hS => ?_))
          replace hS : Ss _ _ _ H [f2400, f2395, f2399, f2067, f2070] F _ _ := hS
          refine st1 hS (asg rfl) rfl fun a w hS => ?_
          refine wpList_nil ?_
          refine then_n ?_
          refine wp_seq ?_
          refine wp_region_list ?_
          refine st1 hS (mv rfl) rfl fun a w hS => ?_
          refine st1 hS (bin rfl rfl rfl) rfl fun a w hS => ?_
          refine wpList_nil ?_
          refine then_n ?_
          refine s_cond hS rfl hM (fun hb2404 hM => ?_) (fun hb2404 hM => ?_)
          · refine wp_seq ?_
            refine wp_region_list ?_
            refine st1 hS (mv rfl) rfl fun a w hS => ?_
            refine st1 hS (asg rfl) rfl fun a w hS => ?_
            refine wpList_nil ?_
            refine then_n ?_
            refine wp_ret ?_
            refine blk_ret (then_ret (blk_ret ?_))
            exact s_ret (rs := [6]) hS rfl rfl (hret x2393 at_2394 f2395 A2396 c2397 out2398 f2399 f2400 w hM h2401 h2402 h2403 (hS.st.pick [0, 1, 2] (by kernel_rfl)))
          · refine wp_skip ?_
            refine blk_n (then_n ?_)
            exact hJ2405 _ _ ⟨at_2394, f2395, A2396, c2397, out2398, f2399, f2400, hS.to [0, 1, 2, 3, 4] (by kernel_rfl) ⟨rfl, rfl, rfl, trivial⟩, h2401, h2402, h2403, hM⟩

theorem mortiseref07_Order_c {H : Imm} {F : List Frag} {w : World} {R : Ending → World → Prop} {kr : Unit → Prop} {kp : Value → Prop} (hG : Gl H) (K : Nat)
    (hS : St w H [] F) (hm : (mortiseref07_Order.m K).wp kr kp)
    (hret : ∀ (A2515 : Option Addr) (c2516 : Nat) (f2517 : Frag) (w : World), kr () → (Vec 3 (ci .i64) 1 A2515 ([(16 : Int), (17 : Int), (18 : Int), (0 : Int), (8 : Int), (7 : Int), (9 : Int), (6 : Int), (10 : Int), (5 : Int), (11 : Int), (4 : Int), (12 : Int), (3 : Int), (13 : Int), (2 : Int), (14 : Int), (1 : Int), (15 : Int)] : List Int) c2516 f2517) → St w H [f2517] F → R (.returned (.slice A2515 ([(16 : Int), (17 : Int), (18 : Int), (0 : Int), (8 : Int), (7 : Int), (9 : Int), (6 : Int), (10 : Int), (5 : Int), (11 : Int), (4 : Int), (12 : Int), (3 : Int), (13 : Int), (2 : Int), (14 : Int), (1 : Int), (15 : Int)] : List Int).length c2516)) w) :
    Calls Tryd.prog 54 ⟨[]⟩ w R := by
  refine enter Tryd.func54 rfl Tryd.ntmps54 rfl hS fun a w hS => ?_
  have hM := hm; clear hm
  rw [mortiseref07_Order.m] at hM
  refine wp_seq ?_
  refine wp_region_list ?_
  refine st1 hS (asg rfl) rfl fun a w hS => ?_
  obtain ⟨f2509, hV2510, hS⟩ := hS.nilV 3 (ci .i64) 1
  refine wpList_nil ?_
  refine then_n ?_
  refine wp_seq ?_
  refine wp_region_list ?_
  refine bsl (g := (ci .i64)) ([(16 : Int), (17 : Int), (18 : Int), (0 : Int), (8 : Int), (7 : Int), (9 : Int), (6 : Int), (10 : Int), (5 : Int), (11 : Int), (4 : Int), (12 : Int), (3 : Int), (13 : Int), (2 : Int), (14 : Int), (1 : Int), (15 : Int)] : List Int) [.int .i64 (16 : Int), .int .i64 (17 : Int), .int .i64 (18 : Int), .int .i64 (0 : Int), .int .i64 (8 : Int), .int .i64 (7 : Int), .int .i64 (9 : Int), .int .i64 (6 : Int), .int .i64 (10 : Int), .int .i64 (5 : Int), .int .i64 (11 : Int), .int .i64 (4 : Int), .int .i64 (12 : Int), .int .i64 (3 : Int), .int .i64 (13 : Int), .int .i64 (2 : Int), .int .i64 (14 : Int), .int .i64 (1 : Int), .int .i64 (15 : Int)] hS Tryd.runUnderlying67 Tryd.sizeOf3 X.el3 rfl rfl rfl (by simp [Value.cells]) rfl rfl rfl rfl rfl fun w A2511 c2512 f2513 hV2514 hS => ?_
  refine st1 hS (asg rfl) rfl fun a w hS => ?_
  refine wpList_nil ?_
  refine then_n ?_
  refine wp_ret ?_
  exact s_ret (rs := [0]) hS rfl rfl (hret A2511 c2512 f2513 w hM hV2514 (hS.st.pick [0] (by kernel_rfl)))
end Go.TrydS
