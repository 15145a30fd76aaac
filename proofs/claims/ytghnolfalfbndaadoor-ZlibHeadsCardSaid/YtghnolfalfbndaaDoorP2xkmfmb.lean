/- Printed by a program of mine: each Go function answers what its model answers; conditions: what each theorem asks of memory. -/
import Derived.Test.YtghnolfalfbndaaDoorP1xpalci
set_option linter.unusedVariables false
set_option linter.unusedSimpArgs false
namespace Go.TrydS
open Go Go.Sl Go.Mo Go.Proofs
theorem inflate_reader_dynamic_c {H : Imm} {F : List Frag} {w : World} {R : Ending → World → Prop} {kr : ((Option T_huff_Table) × (Option T_huff_Table) × Int) → Prop} {kp : Value → Prop} (hG : Gl H) (K : Nat) (r1105 : T_inflate_reader) (b1106 : Nat) (f1107 : Frag) (b1109 : Nat) (f1110 : Frag) (A1112 : Option Addr) (c1113 : Nat) (f1114 : Frag) (hB1108 : Blk f1107 b1106 ([ptr b1109 0, .slice A1112 r1105.out_.length c1113, .int .i64 r1105.limit_]) 51) (hB1111 : Blk f1110 b1109 ([.int .i64 r1105.Reader_.place_.at_, str r1105.Reader_.text_]) 65) (hV1115 : Vec 5 (ci .u8) 1 A1112 r1105.out_ c1113 f1114)
    (hS : St w H [f1107, f1110, f1114] F) (hm : (inflate_reader_dynamic.m K r1105).wp kr kp)
    (hret : ∀ (A1436 : Option Addr) (x1437 : Option T_huff_Table) (f1438 : Frag) (A1440 : Option Addr) (x1441 : Option T_huff_Table) (f1442 : Frag) (at_1444 : Int) (f1445 : Frag) (w : World), kr (x1437, x1441, at_1444) → (Opt T_huff_Table.Own A1436 x1437 f1438) → (Opt T_huff_Table.Own A1440 x1441 f1442) → (Blk f1445 b1109 ([.int .i64 at_1444, str r1105.Reader_.text_]) 65) → St w H [f1438, f1442, f1107, f1445, f1114] F → R (.returned (.tuple ⟨[.pointer A1436, .pointer A1440]⟩)) w)
    (hpan : ∀ v w, kp v → St w H [] F → R (.panicked [⟨v, false, false⟩]) w) :
    Calls Tryd.prog 31 ⟨[ptr b1106 0]⟩ w R := by
  refine enter Tryd.func31 rfl Tryd.ntmps31 rfl hS fun a w hS => ?_
  have hM := hm; clear hm
  rw [inflate_reader_dynamic.m] at hM
  refine wp_seq ?_
  refine wp_region_list ?_
  refine st1 hS (asg rfl) rfl fun a w hS => ?_
  refine st1 hS (asg rfl) rfl fun a w hS => ?_
  refine wpList_nil ?_
  refine then_n ?_
  refine wp_seq ?_
  refine wp_region_list ?_
  refine st1 hS (mv rfl) rfl fun a w hS => ?_
  refine s_call hS rfl Tryd.call27 (inflate_reader_number_c hG K r1105 (5 : Int) b1106 f1107 b1109 f1110 A1112 c1113 f1114 hB1108 hB1111 hV1115 (hS.st.part 3 [0, 1, 2] (by kernel_rfl)) (wp_bind hM) (fun x1116 at_1117 f1118 w hM h1119 hst => s_back hS.ev hst.appF rfl fun hS => ?_) (fun v w hk hst => s_pan (then_pan (⟨hS.ev.defs, hpan _ _ hk hst.appF.frame⟩))))
  replace hS : Ss _ _ _ H [f1107, f1118, f1114] F _ _ := hS
  refine st1 hS (bin rfl rfl rfl) rfl fun a w hS => ?_
  refine st1 hS (mv rfl) rfl fun a w hS => ?_
  refine s_call hS rfl Tryd.call27 (inflate_reader_number_c hG K (T_inflate_reader.mk (T_bits_Reader.mk (T_bits_place.mk at_1117) r1105.Reader_.text_) r1105.out_ r1105.limit_) (5 : Int) b1106 f1107 b1109 f1118 A1112 c1113 f1114 hB1108 h1119 hV1115 (hS.st.part 3 [0, 1, 2] (by kernel_rfl)) (wp_bind hM) (fun x1120 at_1121 f1122 w hM h1123 hst => s_back hS.ev hst.appF rfl fun hS => ?_) (fun v w hk hst => s_pan (then_pan (⟨hS.ev.defs, hpan _ _ hk hst.appF.frame⟩))))
  replace hS : Ss _ _ _ H [f1107, f1122, f1114] F _ _ := hS
  refine st1 hS (bin rfl rfl rfl) rfl fun a w hS => ?_
  refine st1x (v := Value.int .i64) hS (asg rfl) rfl fun n_1124 a w hz hS => ?_
  have hM := lt_to hz hM; clear hz
  refine st1x (v := Value.int .i64) hS (asg rfl) rfl fun d1125 a w hz hS => ?_
  have hM := lt_to hz hM; clear hz
  refine wpList_nil ?_
  refine then_n ?_
  refine wp_seq ?_
  refine wp_region_list ?_
  refine st1 hS (mv rfl) rfl fun a w hS => ?_
  refine s_call hS rfl Tryd.call27 (inflate_reader_number_c hG K (T_inflate_reader.mk (T_bits_Reader.mk (T_bits_place.mk at_1121) r1105.Reader_.text_) r1105.out_ r1105.limit_) (4 : Int) b1106 f1107 b1109 f1122 A1112 c1113 f1114 hB1108 h1123 hV1115 (hS.st.part 3 [0, 1, 2] (by kernel_rfl)) (wp_bind hM) (fun x1126 at_1127 f1128 w hM h1129 hst => s_back hS.ev hst.appF rfl fun hS => ?_) (fun v w hk hst => s_pan (then_pan (⟨hS.ev.defs, hpan _ _ hk hst.appF.frame⟩))))
  replace hS : Ss _ _ _ H [f1107, f1128, f1114] F _ _ := hS
  refine st1 hS (bin rfl rfl rfl) rfl fun a w hS => ?_
  refine st1x (v := Value.int .i64) hS (asg rfl) rfl fun some_1130 a w hz hS => ?_
  have hM := lt_to hz hM; clear hz
  refine wpList_nil ?_
  refine then_n ?_
  refine wp_seq ?_
  refine wp_region_list ?_
  refine st1 hS (mv rfl) rfl fun a w hS => ?_
  refine st1 hS (bin rfl rfl rfl) rfl fun a w hS => ?_
  refine st1 hS (mv rfl) rfl fun a w hS => ?_
  refine g_op 2 false 22 (b := (decide (n_1124 > (286 : Int)))) (r := (decide (d1125 > (30 : Int)))) hS rfl rfl rfl rfl rfl rfl rfl (fun hb a w hS K hK => ?_) rfl fun a w hS => ?_
  · refine st1g hS rfl rfl rfl hb (mv rfl) rfl fun a w hS => ?_
    refine st1g hS rfl rfl rfl hb (bin rfl rfl rfl) rfl fun a w hS => ?_
    exact wpList_nil (hK _ _ (hS.up 2 rfl rfl))
  refine s_call hS rfl Tryd.call32 (inflate_refuse_c hG K ((decide (n_1124 > (286 : Int))) || (decide (d1125 > (30 : Int)))) (3 : Int) (hS.st.part 0 [0, 1, 2] (by kernel_rfl)) (wp_bind hM) (fun  w hM  hst => s_back hS.ev hst.appF rfl fun hS => ?_) (fun v w hk hst => s_pan (then_pan (⟨hS.ev.defs, hpan _ _ hk hst.appF.frame⟩))))
  replace hS : Ss _ _ _ H [f1107, f1128, f1114] F _ _ := hS
  refine wpList_nil ?_
  refine then_n ?_
  refine wp_seq ?_
  refine wp_region_list ?_
  refine alc ((List.replicate 19 (0 : Int)).flatMap (ci .i64)) hS Tryd.zeroValue96 rfl rfl fun w b1131 f1132 hB1133 hS => ?_
  refine wpList_nil ?_
  refine then_n ?_
  refine seq_joinJ (fun a w => ∃ (at_1180 : Int) (f1181 : Frag) (l_1183 : (List Int)) (f1185 : Frag), Ss 64 [] [(0, ptr b1106 0), (4, .int .i64 n_1124), (5, .int .i64 d1125), (7, ptr b1131 0)] H [f1107, f1181, f1114, f1185] F a w ∧ (Blk f1181 b1109 ([.int .i64 at_1180, str r1105.Reader_.text_]) 65) ∧ (l_1183.length = 19) ∧ (Blk f1185 b1131 (l_1183.flatMap (ci .i64)) 96) ∧ (inflate_reader_dynamic.j2 K r1105 n_1124 d1125 at_1180 l_1183).wp kr kp) (fun J1187 hJ1187 => ?_) ?_
  · refine wp_seq ?_
    refine wp_region_list ?_
    refine st1 hS (ldGAr rfl hG.g2 (by rfl) Tryd.isAgg96 Tryd.sizeOf96) rfl fun a w hS => ?_
    refine st1 hS (mv rfl) rfl fun a w hS => ?_
    refine wpList_nil ?_
    refine then_n ?_
    refine wp_block ?_
    refine s_loopJ (fun k1165 a w => ∃ (at_1157 : Int) (f1158 : Frag) (l_1160 : (List Int)) (f1162 : Frag) (v1164 : Int), Ss 64 [] [(0, ptr b1106 0), (4, .int .i64 n_1124), (5, .int .i64 d1125), (6, .int .i64 some_1130), (7, ptr b1131 0), (27, .agg ⟨tab_inflate_order.flatMap (ci .i64)⟩), (28, .int .i64 v1164)] H [f1107, f1158, f1114, f1162] F a w ∧ (Blk f1158 b1109 ([.int .i64 at_1157, str r1105.Reader_.text_]) 65) ∧ (l_1160.length = 19) ∧ (Blk f1162 b1131 (l_1160.flatMap (ci .i64)) 96) ∧ (inflate_reader_dynamic.l1 K r1105 n_1124 d1125 some_1130 k1165 at_1157 l_1160 v1164).wp kr kp) K ?_ ?_ ?_
    · exact ⟨at_1127, f1128, (List.replicate 19 (0 : Int)), f1132, (0 : Int), hS.to [1, 2, 3, 0] (by kernel_rfl) ⟨rfl, rfl, rfl, rfl, rfl, rfl, rfl, trivial⟩, h1129, (List.length_replicate ..), hB1133, hM⟩
    · intro a w hI; obtain ⟨_, _, _, _, _, _, _, _, _, hM⟩ := hI; exact hM
    · intro k1165 a w hI J1179 hJ1179
      obtain ⟨at_1157, f1158, l_1160, f1162, v1164, hS, hB1159, hl1161, hB1163, hM⟩ := hI
      rw [inflate_reader_dynamic.l1] at hM
      refine wp_seq ?_
      refine wp_region_list ?_
      refine st1 hS (bin rfl rfl rfl) rfl fun a w hS => ?_
      refine wpList_nil ?_
      refine then_n ?_
      refine wp_seq ?_
      refine s_cond hS rfl hM (fun hb1166 hM => ?_) (fun hb1166 hM => ?_)
      · refine wp_skip ?_
        refine then_n ?_
        refine wp_seq ?_
        refine wp_block ?_
        refine wp_seq ?_
        refine wp_region_list ?_
        refine st1 hS (mv rfl) rfl fun a w hS => ?_
        obtain ⟨hk1167, hM⟩ := wp_chk hM
        refine st1 hS (ixA rfl rfl Tryd.runUnderlying96 Tryd.isAgg3 Tryd.sizeOf3 (fun _ => rfl) tab_inflate_order_len hk1167 rfl) rfl fun a w hS => ?_
        refine st1 hS (asg rfl) rfl fun a w hS => ?_
        refine st1x (v := Value.int .i64) hS (asg rfl) rfl fun s1168 a w hz hS => ?_
        have hM := lt_to hz hM; clear hz
        refine wpList_nil ?_
        refine then_n ?_
        refine wp_seq ?_
        refine wp_region_list ?_
        refine st1 hS (mv rfl) rfl fun a w hS => ?_
        refine st1 hS (mv rfl) rfl fun a w hS => ?_
        refine st1 hS (bin rfl rfl rfl) rfl fun a w hS => ?_
        refine wpList_nil ?_
        refine then_n ?_
        refine s_cond hS rfl hM (fun hb1169 hM => ?_) (fun hb1169 hM => ?_)
        · refine wp_region_list ?_
          refine st1 hS (mv rfl) rfl fun a w hS => ?_
          refine st1 hS (mv rfl) rfl fun a w hS => ?_
          refine s_call hS rfl Tryd.call27 (inflate_reader_number_c hG K (T_inflate_reader.mk (T_bits_Reader.mk (T_bits_place.mk at_1157) r1105.Reader_.text_) r1105.out_ r1105.limit_) (3 : Int) b1106 f1107 b1109 f1158 A1112 c1113 f1114 hB1108 hB1159 hV1115 (hS.st.part 3 [0, 1, 2, 3] (by kernel_rfl)) (wp_bind hM) (fun x1170 at_1171 f1172 w hM h1173 hst => s_back hS.ev hst.appF rfl fun hS => ?_) (fun v w hk hst => s_pan (blk_pan (then_pan (then_pan (blk_pan (then_pan (⟨hS.ev.defs, hpan _ _ hk hst.appF.frame⟩))))))))
          replace hS : Ss _ _ _ H [f1107, f1172, f1114, f1162] F _ _ := hS
          obtain ⟨hk1174, hM⟩ := wp_chk hM
          refine st1 hS (ixB rfl rfl Tryd.runUnderlying96 Tryd.sizeOf3 hk1174) rfl fun a w hS => ?_
          refine stR (xs := l_1160) (g := (ci .i64)) (pre := []) (post := []) 3 (x1170) hS rfl rfl hB1163 rfl (by simp) rfl (fun _ => rfl) (inb_len hl1161 hk1174) rfl Tryd.sizeOf3 (one_t3 _) fun zs1177 w f1175 hz hB1176 hS => ?_
          have hl1178 : zs1177.length = 19 := by rw [hz, List.length_set]; exact hl1161
          have hM := lt_to hz hM; clear hz
          replace hB1176 : Blk f1175 b1131 (zs1177.flatMap (ci .i64)) 96 := by simpa using hB1176
          refine wpList_nil ?_
          refine blk_n (then_n ?_)
          refine wp_region_list ?_
          refine st1 hS (bin rfl rfl rfl) rfl fun a w hS => ?_
          refine st1 hS (mv rfl) rfl fun a w hS => ?_
          refine wpList_nil ?_
          refine then_n ?_
          exact hJ1179 _ _ ⟨at_1171, f1172, zs1177, f1175, (w64 (v1164 + (1 : Int))), hS.to [0, 1, 2, 3] (by kernel_rfl) ⟨rfl, rfl, rfl, rfl, rfl, rfl, rfl, trivial⟩, h1173, hl1178, hB1176, hM⟩
        · refine wp_skip ?_
          refine blk_n (then_n ?_)
          refine wp_region_list ?_
          refine st1 hS (bin rfl rfl rfl) rfl fun a w hS => ?_
          refine st1 hS (mv rfl) rfl fun a w hS => ?_
          refine wpList_nil ?_
          refine then_n ?_
          exact hJ1179 _ _ ⟨at_1157, f1158, l_1160, f1162, (w64 (v1164 + (1 : Int))), hS.to [0, 1, 2, 3] (by kernel_rfl) ⟨rfl, rfl, rfl, rfl, rfl, rfl, rfl, trivial⟩, hB1159, hl1161, hB1163, hM⟩
      · refine wp_exit ?_
        refine then_ex (then_ex (blk_same (then_n ?_)))
        exact hJ1187 _ _ ⟨at_1157, f1158, l_1160, f1162, hS.to [0, 1, 2, 3] (by kernel_rfl) ⟨rfl, rfl, rfl, rfl, trivial⟩, hB1159, hl1161, hB1163, hM⟩
  · intro a w hI
    obtain ⟨at_1180, f1181, l_1183, f1185, hS, hB1182, hl1184, hB1186, hM⟩ := hI
    rw [inflate_reader_dynamic.j2] at hM
    refine wp_seq ?_
    refine wp_region_list ?_
    refine st1 hS (ldAr (xs := l_1183) (g := (ci .i64)) (pre := []) (post := []) 3 rfl hB1186 rfl (by simp) rfl (flat_ln (g := (ci .i64)) (sz := 1) (fun _ => rfl) hl1184) Tryd.isAgg96 Tryd.sizeOf96) rfl fun a w hS => ?_
    refine st1 hS (bldAr (([0, 0, 0, 0, 0, 0, 0, 0, 0, 0, 0, 0, 0, 0, 0, 0, 0, 0, 0] : List Int).flatMap (ci .i64)) Tryd.zeroValue96 Tryd.runUnderlying96 Tryd.sizeOf3 rfl (by kernel_rfl)) rfl fun a w hS => ?_
    refine st1 hS (eqArr rfl rfl Tryd.runUnderlying96 Tryd.runUnderlying3 Tryd.sizeOf3 Tryd.isAgg3 hl1184 rfl Tryd.eqGuardType96 rfl) rfl fun a w hS => ?_
    refine s_call hS rfl Tryd.call32 (inflate_refuse_c hG K (l_1183 == ([0, 0, 0, 0, 0, 0, 0, 0, 0, 0, 0, 0, 0, 0, 0, 0, 0, 0, 0] : List Int)) (3 : Int) (hS.st.part 0 [0, 1, 2, 3] (by kernel_rfl)) (wp_bind hM) (fun  w hM  hst => s_back hS.ev hst.appF rfl fun hS => ?_) (fun v w hk hst => s_pan (then_pan (⟨hS.ev.defs, hpan _ _ hk hst.appF.frame⟩))))
    replace hS : Ss _ _ _ H [f1107, f1181, f1114, f1185] F _ _ := hS
    refine wpList_nil ?_
    refine then_n ?_
    refine wp_seq ?_
    refine wp_region_list ?_
    refine st1 hS (mv rfl) rfl fun a w hS => ?_
    refine st1 hS (mv rfl) rfl fun a w hS => ?_
    refine st1 hS (mv rfl) rfl fun a w hS => ?_
    refine st1 hS (bin rfl rfl rfl) rfl fun a w hS => ?_
    refine st1 hS (slA rfl Tryd.runUnderlying96 Tryd.sizeOf3 hl1184 rfl) rfl fun a w hS => ?_
    refine s_call hS rfl Tryd.call44 (inflate_table_c hG K l_1183 (some ⟨b1131, 0, none⟩) (19) (hB1186.rdF (i := 3) rfl rfl) (Nat.le_of_eq hl1184) (hS.st.part 0 [0, 1, 2, 3] (by kernel_rfl)) (wp_bind hM) (fun A1188 x1189 f1190 w hM h1191 hst => s_back hS.ev hst.appF rfl fun hS => ?_) (fun v w hk hst => s_pan (then_pan (⟨hS.ev.defs, hpan _ _ hk hst.appF.frame⟩))))
    replace hS : Ss _ _ _ H [f1190, f1107, f1181, f1114, f1185] F _ _ := hS
    obtain ⟨x1192, ho1193, hM⟩ := wp_unw hM
    obtain ⟨b1194, hA, hO1202⟩ := h1191.get ho1193
    obtain ⟨f1195, A1198, c1199, f1200, hF, hB1196, hl1197, hV1201⟩ := hO1202
    subst hA; subst hF
    replace hS := hS.front [0, 1, 2, 3, 4] (by kernel_rfl)
    replace hS := hS.splitF
    refine s_call hS rfl Tryd.call45 (inflate_reader_row_c hG K (T_inflate_reader.mk (T_bits_Reader.mk (T_bits_place.mk at_1180) r1105.Reader_.text_) r1105.out_ r1105.limit_) (w64 (n_1124 + d1125)) x1192 b1106 f1107 b1109 f1181 A1112 c1113 f1114 b1194 f1195 A1198 c1199 f1200 hB1108 hB1182 hV1115 hB1196 hl1197 hV1201 (hS.st.part 5 [2, 3, 4, 0, 1, 5] (by kernel_rfl)) (wp_bind hM) (fun A1405 c1406 x1407 f1408 at_1409 f1410 w hM h1411 h1412 hst => s_back hS.ev hst.appF rfl fun hS => ?_) (fun v w hk hst => s_pan (then_pan (⟨hS.ev.defs, hpan _ _ hk hst.appF.frame⟩))))
    replace hS : Ss _ _ _ H [f1408, f1195, f1200, f1107, f1410, f1114, f1185] F _ _ := hS
    refine st1 hS (asg rfl) rfl fun a w hS => ?_
    refine wpList_nil ?_
    refine then_n ?_
    refine wp_seq ?_
    refine wp_region_list ?_
    refine st1 hS (mv rfl) rfl fun a w hS => ?_
    obtain ⟨hk1413, hM⟩ := wp_chk hM
    refine st1 hS (ixV rfl rfl Tryd.runUnderlying74 Tryd.sizeOf3 (h1411.rd (i := 0) rfl) (fun _ => rfl) rfl hk1413) rfl fun a w hS => ?_
    refine st1 hS (ldV0 rfl (h1411.rd (i := 0) rfl) (fun _ => rfl) hk1413 rfl Tryd.isAgg3) rfl fun a w hS => ?_
    refine st1 hS (bin rfl rfl rfl) rfl fun a w hS => ?_
    refine s_call hS rfl Tryd.call32 (inflate_refuse_c hG K ((rd x1407 (256 : Int)) == (0 : Int)) (3 : Int) (hS.st.part 0 [0, 1, 2, 3, 4, 5, 6] (by kernel_rfl)) (wp_bind hM) (fun  w hM  hst => s_back hS.ev hst.appF rfl fun hS => ?_) (fun v w hk hst => s_pan (then_pan (⟨hS.ev.defs, hpan _ _ hk hst.appF.frame⟩))))
    replace hS : Ss _ _ _ H [f1408, f1195, f1200, f1107, f1410, f1114, f1185] F _ _ := hS
    refine wpList_nil ?_
    refine then_n ?_
    refine wp_seq ?_
    obtain ⟨hk1414, hM⟩ := wp_chk hM
    obtain ⟨zs1415, A1416, c1417, hz, hd1418, hc1419, hov1420⟩ := slEx (g := (ci .i64)) (A := A1405) Tryd.prog Tryd.runUnderlying74 Tryd.sizeOf3 (fun _ => rfl) (h1411.cap (fun _ => rfl) rfl) hk1414
    replace hM := lt_to hz hM; clear hz
    obtain ⟨hk1421, hM⟩ := wp_chk hM
    obtain ⟨zs1422, A1423, c1424, hz, hd1425, hc1426, hov1427⟩ := slEx (g := (ci .i64)) (A := A1405) Tryd.prog Tryd.runUnderlying74 Tryd.sizeOf3 (fun _ => rfl) (h1411.cap (fun _ => rfl) rfl) hk1421
    replace hM := lt_to hz hM; clear hz
    refine draw_begin (vals := [some (.slice A1405 x1407.length c1406), some (.int .i64 n_1124), some (.slice A1416 zs1415.length c1417), none, some (.slice A1405 x1407.length c1406), some (.int .i64 n_1124), some (.slice A1423 zs1422.length c1424), none, none, none]) hS mixed rfl ?_
    intro l w ho hcl hA hst
    refine phase' (vals := [some (.slice A1405 x1407.length c1406), some (.int .i64 n_1124), some (.slice A1416 zs1415.length c1417), none, some (.slice A1405 x1407.length c1406), some (.int .i64 n_1124), some (.slice A1423 zs1422.length c1424), none, none, none]) 3 [] [0, 1, 2, 4, 5, 6] rfl rfl rfl rfl (by exact ⟨nR rfl rfl rfl rfl rfl (by exact ovE (mv rfl) rfl), nR rfl rfl rfl rfl rfl (by exact ovE (mv rfl) rfl), nR rfl rfl rfl rfl rfl (by exact ovE (hov1420 rfl lo0 (hiS rfl)) rfl), nR rfl rfl rfl rfl rfl (by exact ovE (mv rfl) rfl), nR rfl rfl rfl rfl rfl (by exact ovE (mv rfl) rfl), nR rfl rfl rfl rfl rfl (by exact ovE (hov1427 rfl (loS rfl) hi0) rfl), trivial⟩) (fun D l a w ho hcl hav hpre hm hE hk hA hst => ?_) ho hcl (fun j hj => (List.not_mem_nil hj).elim) (fun m hm => (List.not_mem_nil hm).elim) List.not_mem_nil hA hst
    have hS := (Ss.mk hE hst).env2 (e' := [(58, .slice A1416 zs1415.length c1417)]) ⟨rfl, trivial⟩
    refine op_of_nth rfl ?_
    refine s_call hS rfl Tryd.call44 (inflate_table_c hG K zs1415 A1416 c1417 (hd1418 _ _ _ (h1411.rdF (i := 0) rfl)) hc1419 (hS.st.part 0 [0, 1, 2, 3, 4, 5, 6] (by kernel_rfl)) (wp_bind hM) (fun A1428 x1429 f1430 w hM h1431 hst => s_back hS.ev hst.appF rfl fun hS => ?_) (fun v w hk hst => s_pan (then_pan (then_pan (⟨hS.ev.defs, hpan _ _ hk hst.appF.frame⟩)))))
    replace hS : Ss _ _ _ H [f1430, f1408, f1195, f1200, f1107, f1410, f1114, f1185] F _ _ := hS
    refine wpList_nil (then_n ?_)
    have hcl2 := hcl.cons (k := 3) (nth_get rfl) hpre
    have hmust := must_cons (k := 3) hm (chain (k := 3) hcl (nth_get rfl) hpre [(2, 3), (0, 2), (1, 2)] [] rfl (fun _ h => absurd h List.not_mem_nil))
    replace hst := hS.st
    have hav2 := hav.cons (vals' := [some (.slice A1405 x1407.length c1406), some (.int .i64 n_1124), some (.slice A1416 zs1415.length c1417), some (.pointer A1428), some (.slice A1405 x1407.length c1406), some (.int .i64 n_1124), some (.slice A1423 zs1422.length c1424), none, none, none]) (k := 3) ⟨rfl, rfl, rfl, rfl, rfl, rfl, trivial⟩ rfl
    replace hA := (hA.next hav (subV.get (l' := [some (.slice A1405 x1407.length c1406), some (.int .i64 n_1124), some (.slice A1416 zs1415.length c1417), some (.pointer A1428), some (.slice A1405 x1407.length c1406), some (.int .i64 n_1124), some (.slice A1423 zs1422.length c1424), none, none, none]) ⟨rfl, rfl, rfl, rfl, rfl, rfl, trivial⟩)).step rfl (nth_get rfl) hk rfl rfl rfl
    clear hm hav
    replace hcl := hcl2
    refine phase' (vals := [some (.slice A1405 x1407.length c1406), some (.int .i64 n_1124), some (.slice A1416 zs1415.length c1417), some (.pointer A1428), some (.slice A1405 x1407.length c1406), some (.int .i64 n_1124), some (.slice A1423 zs1422.length c1424), none, none, none]) 7 [3, 2, 0, 1] [4, 5, 6] rfl rfl rfl rfl (by exact ⟨nR rfl rfl rfl rfl rfl (by exact ovE (mv rfl) rfl), nR rfl rfl rfl rfl rfl (by exact ovE (mv rfl) rfl), nR rfl rfl rfl rfl rfl (by exact ovE (hov1427 rfl (loS rfl) hi0) rfl), trivial⟩) (fun D l a w ho hcl hav hpre hm hE hk hA hst => ?_) ho hcl hav2 hmust (hav2.notin rfl) hA hst
    have hS := (Ss.mk hE hst).env2 (e' := [(62, .slice A1423 zs1422.length c1424)]) ⟨rfl, trivial⟩
    refine op_of_nth rfl ?_
    refine s_call hS rfl Tryd.call44 (inflate_table_c hG K zs1422 A1423 c1424 (hd1425 _ _ _ (h1411.rdF (i := 1) rfl)) hc1426 (hS.st.part 0 [0, 1, 2, 3, 4, 5, 6, 7] (by kernel_rfl)) (wp_bind hM) (fun A1432 x1433 f1434 w hM h1435 hst => s_back hS.ev hst.appF rfl fun hS => ?_) (fun v w hk hst => s_pan (then_pan (then_pan (⟨hS.ev.defs, hpan _ _ hk hst.appF.frame⟩)))))
    replace hS : Ss _ _ _ H [f1434, f1430, f1408, f1195, f1200, f1107, f1410, f1114, f1185] F _ _ := hS
    refine wpList_nil (then_n ?_)
    have hcl2 := hcl.cons (k := 7) (nth_get rfl) hpre
    have hmust := must_cons (k := 7) hm (chain (k := 7) hcl (nth_get rfl) hpre [(3, 7), (6, 7), (2, 3), (4, 6), (5, 6), (0, 2), (1, 2)] [] rfl (fun _ h => absurd h List.not_mem_nil))
    replace hst := hS.st
    have hav2 := hav.cons (vals' := [some (.slice A1405 x1407.length c1406), some (.int .i64 n_1124), some (.slice A1416 zs1415.length c1417), some (.pointer A1428), some (.slice A1405 x1407.length c1406), some (.int .i64 n_1124), some (.slice A1423 zs1422.length c1424), some (.pointer A1432), some (.pointer A1428), some (.pointer A1432)]) (k := 7) ⟨rfl, rfl, rfl, rfl, rfl, rfl, rfl, trivial⟩ rfl
    replace hA := (hA.next hav (subV.get (l' := [some (.slice A1405 x1407.length c1406), some (.int .i64 n_1124), some (.slice A1416 zs1415.length c1417), some (.pointer A1428), some (.slice A1405 x1407.length c1406), some (.int .i64 n_1124), some (.slice A1423 zs1422.length c1424), some (.pointer A1432), some (.pointer A1428), some (.pointer A1432)]) ⟨rfl, rfl, rfl, rfl, rfl, rfl, rfl, trivial⟩)).step rfl (nth_get rfl) hk rfl rfl rfl
    clear hm hav
    replace hcl := hcl2
    refine phaseE (vals := [some (.slice A1405 x1407.length c1406), some (.int .i64 n_1124), some (.slice A1416 zs1415.length c1417), some (.pointer A1428), some (.slice A1405 x1407.length c1406), some (.int .i64 n_1124), some (.slice A1423 zs1422.length c1424), some (.pointer A1432), some (.pointer A1428), some (.pointer A1432)]) [7, 3, 6, 2, 4, 5, 0, 1, 3, 2, 0, 1] [8, 9] rfl rfl rfl (by exact ⟨nR rfl rfl rfl rfl rfl (by exact ovE (asg rfl) rfl), nR rfl rfl rfl rfl rfl (by exact ovE (asg rfl) rfl), trivial⟩) (fun a w hS => ?_) ho hcl hmust hA hst
    replace hS := hS.env2 (e' := [(2, .pointer A1428), (3, .pointer A1432)]) ⟨rfl, rfl, trivial⟩
    refine then_n ?_
    refine wp_ret ?_
    exact s_ret (rs := [2, 3]) hS rfl rfl (hret A1428 x1429 f1430 A1432 x1433 f1434 at_1409 f1410 w hM h1431 h1435 h1412 (hS.st.pick [1, 0, 5, 6, 7] (by kernel_rfl)))

theorem inflate_reader_block_c {H : Imm} {F : List Frag} {w : World} {R : Ending → World → Prop} {kr : (Bool × Int × (List Int)) → Prop} {kp : Value → Prop} (hG : Gl H) (K : Nat) (r138 : T_inflate_reader) (b139 : Nat) (f140 : Frag) (b142 : Nat) (f143 : Frag) (A145 : Option Addr) (c146 : Nat) (f147 : Frag) (hB141 : Blk f140 b139 ([ptr b142 0, .slice A145 r138.out_.length c146, .int .i64 r138.limit_]) 51) (hB144 : Blk f143 b142 ([.int .i64 r138.Reader_.place_.at_, str r138.Reader_.text_]) 65) (hV148 : Vec 5 (ci .u8) 1 A145 r138.out_ c146 f147)
    (hS : St w H [f140, f143, f147] F) (hm : (inflate_reader_block.m K r138).wp kr kp)
    (hret : ∀ (x1490 : Bool) (at_1491 : Int) (f1492 : Frag) (A1494 : Option Addr) (c1495 : Nat) (out1496 : (List Int)) (f1497 : Frag) (f1499 : Frag) (w : World), kr (x1490, at_1491, out1496) → (Blk f1492 b142 ([.int .i64 at_1491, str r138.Reader_.text_]) 65) → (Vec 5 (ci .u8) 1 A1494 out1496 c1495 f1497) → (Blk f1499 b139 ([ptr b142 0, .slice A1494 out1496.length c1495, .int .i64 r138.limit_]) 51) → St w H [f1499, f1492, f1497] F → R (.returned (.bool x1490)) w)
    (hpan : ∀ v w, kp v → St w H [] F → R (.panicked [⟨v, false, false⟩]) w) :
    Calls Tryd.prog 20 ⟨[ptr b139 0]⟩ w R := by
  refine enter Tryd.func20 rfl Tryd.ntmps20 rfl hS fun a w hS => ?_
  have hM := hm; clear hm
  rw [inflate_reader_block.m] at hM
  refine wp_seq ?_
  refine wp_region_list ?_
  refine st1 hS (asg rfl) rfl fun a w hS => ?_
  refine wpList_nil ?_
  refine then_n ?_
  refine wp_seq ?_
  refine wp_region_list ?_
  refine st1 hS (mv rfl) rfl fun a w hS => ?_
  refine s_call hS rfl Tryd.call27 (inflate_reader_number_c hG K r138 (1 : Int) b139 f140 b142 f143 A145 c146 f147 hB141 hB144 hV148 (hS.st.part 3 [0, 1, 2] (by kernel_rfl)) (wp_bind hM) (fun x206 at_207 f208 w hM h209 hst => s_back hS.ev hst.appF rfl fun hS => ?_) (fun v w hk hst => s_pan (then_pan (⟨hS.ev.defs, hpan _ _ hk hst.appF.frame⟩))))
  replace hS : Ss _ _ _ H [f140, f208, f147] F _ _ := hS
  refine st1 hS (bin rfl rfl rfl) rfl fun a w hS => ?_
  refine st1x (v := Value.bool) hS (asg rfl) rfl fun last210 a w hz hS => ?_
  have hM := lt_to hz hM; clear hz
  refine wpList_nil ?_
  refine then_n ?_
  refine wp_seq ?_
  refine wp_seq ?_
  refine wp_region_list ?_
  refine st1 hS (mv rfl) rfl fun a w hS => ?_
  refine s_call hS rfl Tryd.call27 (inflate_reader_number_c hG K (T_inflate_reader.mk (T_bits_Reader.mk (T_bits_place.mk at_207) r138.Reader_.text_) r138.out_ r138.limit_) (2 : Int) b139 f140 b142 f208 A145 c146 f147 hB141 h209 hV148 (hS.st.part 3 [0, 1, 2] (by kernel_rfl)) (wp_bind hM) (fun x211 at_212 f213 w hM h214 hst => s_back hS.ev hst.appF rfl fun hS => ?_) (fun v w hk hst => s_pan (then_pan (then_pan (⟨hS.ev.defs, hpan _ _ hk hst.appF.frame⟩)))))
  replace hS : Ss _ _ _ H [f140, f213, f147] F _ _ := hS
  refine wpList_nil ?_
  refine then_n ?_
  refine wp_block ?_
  refine wp_seq ?_
  refine wp_region_list ?_
  refine st1 hS (bin rfl rfl rfl) rfl fun a w hS => ?_
  refine st1x (v := Value.bool) hS (asg rfl) rfl fun v215 a w hz hS => ?_
  have hM := lt_to hz hM; clear hz
  refine wpList_nil ?_
  refine then_n ?_
  refine s_cond hS rfl hM (fun hb216 hM => ?_) (fun hb216 hM => ?_)
  · refine wp_region_list ?_
    refine st1 hS (mv rfl) rfl fun a w hS => ?_
    refine s_call hS rfl Tryd.call28 (inflate_reader_stored_c hG K (T_inflate_reader.mk (T_bits_Reader.mk (T_bits_place.mk at_212) r138.Reader_.text_) r138.out_ r138.limit_) b139 f140 b142 f213 A145 c146 f147 hB141 h214 hV148 (hS.st.part 3 [0, 1, 2] (by kernel_rfl)) (wp_bind hM) (fun at_301 f302 A303 c304 out305 f306 f307 w hM h308 h309 h310 hst => s_back hS.ev hst.appF rfl fun hS => ?_) (fun v w hk hst => s_pan (blk_pan (then_pan (⟨hS.ev.defs, hpan _ _ hk hst.appF.frame⟩)))))
    replace hS : Ss _ _ _ H [f307, f302, f306] F _ _ := hS
    refine wpList_nil ?_
    refine blk_n (then_n ?_)
    refine wp_seq ?_
    refine wp_region_list ?_
    refine st1 hS (mv rfl) rfl fun a w hS => ?_
    refine st1 hS (asg rfl) rfl fun a w hS => ?_
    refine wpList_nil ?_
    refine then_n ?_
    refine wp_ret ?_
    exact s_ret (rs := [2]) hS rfl rfl (hret last210 at_301 f302 A303 c304 out305 f306 f307 w hM h308 h309 h310 (hS.st.pick [0, 1, 2] (by kernel_rfl)))
  · refine wp_seq ?_
    refine wp_region_list ?_
    refine st1 hS (bin rfl rfl rfl) rfl fun a w hS => ?_
    refine st1x (v := Value.bool) hS (asg rfl) rfl fun v311 a w hz hS => ?_
    have hM := lt_to hz hM; clear hz
    refine wpList_nil ?_
    refine then_n ?_
    refine s_cond hS rfl hM (fun hb312 hM => ?_) (fun hb312 hM => ?_)
    · refine wp_region_list ?_
      refine st1 hS (mv rfl) rfl fun a w hS => ?_
      refine s_call hS rfl Tryd.call30 (inflate_fixed_c hG K  (hS.st.part 0 [0, 1, 2] (by kernel_rfl)) (wp_bind hM) (fun A691 x692 f693 A694 x695 f696 w hM h697 h698 hst => s_back hS.ev hst.appF rfl fun hS => ?_) (fun v w hk hst => s_pan (blk_pan (then_pan (⟨hS.ev.defs, hpan _ _ hk hst.appF.frame⟩)))))
      replace hS : Ss _ _ _ H [f693, f696, f140, f213, f147] F _ _ := hS
      refine st1 hS (ex rfl rfl) rfl fun a w hS => ?_
      refine st1 hS (ex rfl rfl) rfl fun a w hS => ?_
      obtain ⟨x699, ho700, hM⟩ := wp_unw hM
      obtain ⟨b701, hA, hO709⟩ := h697.get ho700
      obtain ⟨f702, A705, c706, f707, hF, hB703, hl704, hV708⟩ := hO709
      subst hA; subst hF
      replace hS := hS.front [0, 1, 2, 3, 4] (by kernel_rfl)
      replace hS := hS.splitF
      obtain ⟨x710, ho711, hM⟩ := wp_unw hM
      obtain ⟨b712, hA, hO720⟩ := h698.get ho711
      obtain ⟨f713, A716, c717, f718, hF, hB714, hl715, hV719⟩ := hO720
      subst hA; subst hF
      replace hS := hS.front [2, 0, 1, 3, 4, 5] (by kernel_rfl)
      replace hS := hS.splitF
      refine s_call hS rfl Tryd.call29 (inflate_reader_symbols_c hG K (T_inflate_reader.mk (T_bits_Reader.mk (T_bits_place.mk at_212) r138.Reader_.text_) r138.out_ r138.limit_) x699 x710 b139 f140 b142 f213 A145 c146 f147 b701 f702 A705 c706 f707 b712 f713 A716 c717 f718 hB141 h214 hV148 hB703 hl704 hV708 hB714 hl715 hV719 (hS.st.part 7 [4, 5, 6, 2, 3, 0, 1] (by kernel_rfl)) (wp_bind hM) (fun at_1093 f1094 A1095 c1096 out1097 f1098 f1099 w hM h1100 h1101 h1102 hst => s_back hS.ev hst.appF rfl fun hS => ?_) (fun v w hk hst => s_pan (blk_pan (then_pan (⟨hS.ev.defs, hpan _ _ hk hst.appF.frame⟩)))))
      replace hS : Ss _ _ _ H [f713, f718, f702, f707, f1099, f1094, f1098] F _ _ := hS
      refine wpList_nil ?_
      refine blk_n (then_n ?_)
      refine wp_seq ?_
      refine wp_region_list ?_
      refine st1 hS (mv rfl) rfl fun a w hS => ?_
      refine st1 hS (asg rfl) rfl fun a w hS => ?_
      refine wpList_nil ?_
      refine then_n ?_
      refine wp_ret ?_
      exact s_ret (rs := [2]) hS rfl rfl (hret last210 at_1093 f1094 A1095 c1096 out1097 f1098 f1099 w hM h1100 h1101 h1102 (hS.st.pick [4, 5, 6] (by kernel_rfl)))
    · refine wp_seq ?_
      refine wp_region_list ?_
      refine st1 hS (bin rfl rfl rfl) rfl fun a w hS => ?_
      refine st1x (v := Value.bool) hS (asg rfl) rfl fun v1103 a w hz hS => ?_
      have hM := lt_to hz hM; clear hz
      refine wpList_nil ?_
      refine then_n ?_
      refine s_cond hS rfl hM (fun hb1104 hM => ?_) (fun hb1104 hM => ?_)
      · refine wp_region_list ?_
        refine st1 hS (mv rfl) rfl fun a w hS => ?_
        refine st1 hS (mv rfl) rfl fun a w hS => ?_
        refine s_call hS rfl Tryd.call31 (inflate_reader_dynamic_c hG K (T_inflate_reader.mk (T_bits_Reader.mk (T_bits_place.mk at_212) r138.Reader_.text_) r138.out_ r138.limit_) b139 f140 b142 f213 A145 c146 f147 hB141 h214 hV148 (hS.st.part 3 [0, 1, 2] (by kernel_rfl)) (wp_bind hM) (fun A1447 x1448 f1449 A1450 x1451 f1452 at_1453 f1454 w hM h1455 h1456 h1457 hst => s_back hS.ev hst.appF rfl fun hS => ?_) (fun v w hk hst => s_pan (blk_pan (then_pan (⟨hS.ev.defs, hpan _ _ hk hst.appF.frame⟩)))))
        replace hS : Ss _ _ _ H [f1449, f1452, f140, f1454, f147] F _ _ := hS
        refine st1 hS (ex rfl rfl) rfl fun a w hS => ?_
        refine st1 hS (ex rfl rfl) rfl fun a w hS => ?_
        obtain ⟨x1458, ho1459, hM⟩ := wp_unw hM
        obtain ⟨b1460, hA, hO1468⟩ := h1455.get ho1459
        obtain ⟨f1461, A1464, c1465, f1466, hF, hB1462, hl1463, hV1467⟩ := hO1468
        subst hA; subst hF
        replace hS := hS.front [0, 1, 2, 3, 4] (by kernel_rfl)
        replace hS := hS.splitF
        obtain ⟨x1469, ho1470, hM⟩ := wp_unw hM
        obtain ⟨b1471, hA, hO1479⟩ := h1456.get ho1470
        obtain ⟨f1472, A1475, c1476, f1477, hF, hB1473, hl1474, hV1478⟩ := hO1479
        subst hA; subst hF
        replace hS := hS.front [2, 0, 1, 3, 4, 5] (by kernel_rfl)
        replace hS := hS.splitF
        refine s_call hS rfl Tryd.call29 (inflate_reader_symbols_c hG K (T_inflate_reader.mk (T_bits_Reader.mk (T_bits_place.mk at_1453) r138.Reader_.text_) r138.out_ r138.limit_) x1458 x1469 b139 f140 b142 f1454 A145 c146 f147 b1460 f1461 A1464 c1465 f1466 b1471 f1472 A1475 c1476 f1477 hB141 h1457 hV148 hB1462 hl1463 hV1467 hB1473 hl1474 hV1478 (hS.st.part 7 [4, 5, 6, 2, 3, 0, 1] (by kernel_rfl)) (wp_bind hM) (fun at_1480 f1481 A1482 c1483 out1484 f1485 f1486 w hM h1487 h1488 h1489 hst => s_back hS.ev hst.appF rfl fun hS => ?_) (fun v w hk hst => s_pan (blk_pan (then_pan (⟨hS.ev.defs, hpan _ _ hk hst.appF.frame⟩)))))
        replace hS : Ss _ _ _ H [f1472, f1477, f1461, f1466, f1486, f1481, f1485] F _ _ := hS
        refine wpList_nil ?_
        refine blk_n (then_n ?_)
        refine wp_seq ?_
        refine wp_region_list ?_
        refine st1 hS (mv rfl) rfl fun a w hS => ?_
        refine st1 hS (asg rfl) rfl fun a w hS => ?_
        refine wpList_nil ?_
        refine then_n ?_
        refine wp_ret ?_
        exact s_ret (rs := [2]) hS rfl rfl (hret last210 at_1480 f1481 A1482 c1483 out1484 f1485 f1486 w hM h1487 h1488 h1489 (hS.st.pick [4, 5, 6] (by kernel_rfl)))
      · refine wp_region_list ?_
        refine s_call hS rfl Tryd.call32 (inflate_refuse_c hG K true (3 : Int) (hS.st.part 0 [0, 1, 2] (by kernel_rfl)) (wp_bind hM) (fun  w hM  hst => s_back hS.ev hst.appF rfl fun hS => ?_) (fun v w hk hst => s_pan (blk_pan (then_pan (⟨hS.ev.defs, hpan _ _ hk hst.appF.frame⟩)))))
        replace hS : Ss _ _ _ H [f140, f213, f147] F _ _ := hS
        refine wpList_nil ?_
        refine blk_n (then_n ?_)
        refine wp_seq ?_
        refine wp_region_list ?_
        refine st1 hS (mv rfl) rfl fun a w hS => ?_
        refine st1 hS (asg rfl) rfl fun a w hS => ?_
        refine wpList_nil ?_
        refine then_n ?_
        refine wp_ret ?_
        exact s_ret (rs := [2]) hS rfl rfl (hret last210 at_212 f213 A145 c146 r138.out_ f147 f140 w hM h214 hV148 hB141 (hS.st.pick [0, 1, 2] (by kernel_rfl)))

theorem bits_Reader_At_c {H : Imm} {F : List Frag} {w : World} {R : Ending → World → Prop} {kr : Unit → Prop} {kp : Value → Prop} (hG : Gl H) (K : Nat) (r1558 : T_bits_Reader) (b1559 : Nat) (f1560 : Frag) (hB1561 : Blk f1560 b1559 ([.int .i64 r1558.place_.at_, str r1558.text_]) 65)
    (hS : St w H [f1560] F) (hm : (bits_Reader_At.m K r1558).wp kr kp)
    (hret : ∀ (w : World), kr () → St w H [f1560] F → R (.returned (.int .i64 r1558.place_.at_)) w) :
    Calls Tryd.prog 21 ⟨[ptr b1559 0]⟩ w R := by
  refine enter Tryd.func21 rfl Tryd.ntmps21 rfl hS fun a w hS => ?_
  have hM := hm; clear hm
  rw [bits_Reader_At.m] at hM
  refine wp_seq ?_
  refine wp_region_list ?_
  refine st1 hS (asg rfl) rfl fun a w hS => ?_
  refine wpList_nil ?_
  refine then_n ?_
  refine wp_seq ?_
  refine wp_seq ?_
  refine wp_region_list ?_
  refine st1 hS (mv rfl) rfl fun a w hS => ?_
  refine st1 hS (eqNil rfl rfl Tryd.runUnderlying48) rfl fun a w hS => ?_
  refine wpList_nil ?_
  refine then_n ?_
  refine s_condF hS rfl ?_
  refine wp_skip ?_
  refine then_n ?_
  refine wp_seq ?_
  refine wp_region_list ?_
  refine st1 hS (mv rfl) rfl fun a w hS => ?_
  refine st1 hS (nck rfl) rfl fun a w hS => ?_
  refine st1 hS (fad rfl Tryd.runUnderlying65 rfl Tryd.sizeOf63 rfl) rfl fun a w hS => ?_
  refine st1 hS (fad rfl Tryd.runUnderlying63 rfl Tryd.sizeOf3 rfl) rfl fun a w hS => ?_
  refine st1 hS (ldb 0 rfl hB1561 rfl rfl Tryd.isAgg3) rfl fun a w hS => ?_
  refine st1 hS (asg rfl) rfl fun a w hS => ?_
  refine wpList_nil ?_
  refine then_n ?_
  refine wp_ret ?_
  exact s_ret (rs := [2]) hS rfl rfl (hret w hM (hS.st.pick [0] (by kernel_rfl)))

theorem inflate_Inflate_c {H : Imm} {F : List Frag} {w : World} {R : Ending → World → Prop} {kr : ((List UInt8) × Int × Int) → Prop} {kp : Value → Prop} (hG : Gl H) (K : Nat) (s91 : List UInt8) (limit92 : Int)
    (hS : St w H [] F) (hm : (inflate_Inflate.m K s91 limit92).wp kr kp)
    (hret : ∀ (x1569 : List UInt8) (x1570 : Int) (x1571 : Int) (w : World), kr (x1569, x1570, x1571) → St w H [] F → R (.returned (.tuple ⟨[str x1569, .int .i64 x1570, .int .i64 x1571]⟩)) w) :
    Calls Tryd.prog 10 ⟨[str s91, .int .i64 limit92]⟩ w R := by
  refine enterD Tryd.func10 rfl Tryd.ntmps10 rfl hS fun a w hS => ?_
  have hM := hm; clear hm
  rw [inflate_Inflate.m] at hM
  refine wp_seq ?_
  refine wp_region_list ?_
  refine alc ([str ([] : List UInt8)]) hS Tryd.zeroValue9 rfl rfl fun w b93 f94 hB95 hS => ?_
  refine alc ([.int .i64 (0 : Int)]) hS Tryd.zeroValue3 rfl rfl fun w b96 f97 hB98 hS => ?_
  refine alc ([.int .i64 (0 : Int)]) hS Tryd.zeroValue23 rfl rfl fun w b99 f100 hB101 hS => ?_
  refine wpList_nil ?_
  refine then_n ?_
  refine wp_seq ?_
  refine wp_seq ?_
  refine wp_region_list ?_
  refine st1 hS (mv rfl) rfl fun a w hS => ?_
  refine st1 hS (bin rfl rfl rfl) rfl fun a w hS => ?_
  refine st1 hS (mv rfl) rfl fun a w hS => ?_
  refine g_op 2 false 10 (b := (decide (limit92 < (0 : Int)))) (r := (decide (limit92 > (1073741824 : Int)))) hS rfl rfl rfl rfl rfl rfl rfl (fun hb a w hS K hK => ?_) rfl fun a w hS => ?_
  · refine st1g hS rfl rfl rfl hb (mv rfl) rfl fun a w hS => ?_
    refine st1g hS rfl rfl rfl hb (bin rfl rfl rfl) rfl fun a w hS => ?_
    exact wpList_nil (hK _ _ (hS.up 2 rfl rfl))
  refine wpList_nil ?_
  refine then_n ?_
  refine s_cond hS rfl hM (fun hb102 hM => ?_) (fun hb102 hM => ?_)
  · refine wp_seq ?_
    refine wp_region_list ?_
    refine sto 2 ([str ([] : List UInt8)]) hS rfl rfl hB95 rfl rfl rfl rfl Tryd.sizeOf9 fun w f103 hB104 hS => ?_
    refine sto 1 ([.int .i64 (0 : Int)]) hS rfl rfl hB98 rfl rfl rfl rfl Tryd.sizeOf3 fun w f105 hB106 hS => ?_
    refine sto 0 ([.int .i64 (1 : Int)]) hS rfl rfl hB101 rfl rfl rfl rfl Tryd.sizeOf23 fun w f107 hB108 hS => ?_
    refine wpList_nil ?_
    refine then_n ?_
    refine wp_ret ?_
    refine then_ret ?_
    exact s_retD0 hS.ev (leavesRet (vs := [str ([] : List UInt8), .int .i64 (0 : Int), .int .i64 (1 : Int)]) hS.ev hS.st rfl (by exact ⟨rvC 2 rfl hB104 rfl rfl Tryd.isAgg9, rvC 1 rfl hB106 rfl rfl Tryd.isAgg3, rvC 0 rfl hB108 rfl rfl Tryd.isAgg23, trivial⟩) (hret ([] : List UInt8) (0 : Int) (1 : Int) w hM (hS.st.pick [] (by kernel_rfl))))
  · refine wp_skip ?_
    refine then_n ?_
    refine wp_seq ?_
    refine wp_region_list ?_
    refine st1 hS (mkF rfl rfl) rfl fun a w hS => ?_
    refine s_defer hS rfl fun a w hS => ?_
    obtain ⟨kpd110, hkd111, hM⟩ := wp_catch hM
    have hpd109 : ∀ v w a, kpd110 v → Ev 35 [⟨.fn (.func 18) ⟨[ptr b93 0, ptr b96 0, ptr b99 0]⟩, ⟨[]⟩⟩] [(4, ptr b93 0), (5, ptr b96 0), (6, ptr b99 0)] a → St w H [f94, f97, f100] F → bodyPostD Tryd.prog Tryd.f10 R (.panic [⟨v, false, false⟩]) a w := by
      intro v w a hk hE115 hst
      have hM := hkd111 v hk
      rw [inflate_Inflate.h1] at hM
      obtain ⟨e112, he113, hM⟩ := wp_unw hM
      cases asE_eq he113
      refine s_panD hE115 hst Tryd.call18 Tryd.func18 rfl Tryd.ntmps18 rfl rfl rfl fun a w hS => ?_
      refine wp_seq ?_
      refine wp_region_list ?_
      refine st1 hS (mv rfl) rfl fun a w hS => ?_
      refine st1 hS (ifI .neq rfl rfl Tryd.runUnderlying20 rfl) rfl fun a w hS => ?_
      refine wpList_nil ?_
      refine then_n ?_
      refine s_condT hS rfl ?_
      refine draw_begin (vals := [some (.iface 46 (.agg ⟨[.int .i64 e112]⟩)), some (.agg ⟨[.int .i64 e112]⟩), some (.int .i64 e112), none, none, none]) hS mixed rfl ?_
      intro l w ho hcl hA hst
      refine phase' (vals := [some (.iface 46 (.agg ⟨[.int .i64 e112]⟩)), some (.agg ⟨[.int .i64 e112]⟩), some (.int .i64 e112), none, none, none]) 3 [] [0, 1, 2] rfl rfl rfl rfl (by exact ⟨nR rfl rfl rfl rfl rfl (by exact ovE (mv rfl) rfl), nR rfl rfl rfl rfl rfl (by exact ovE (tas rfl Tryd.runUnderlying46 rfl) rfl), nR rfl rfl rfl rfl rfl (by exact ovE (fld rfl Tryd.runUnderlying46 rfl Tryd.isAgg23 rfl) rfl), trivial⟩) (fun D l a w ho hcl hav hpre hm hE hk hA hst => ?_) ho hcl (fun j hj => (List.not_mem_nil hj).elim) (fun m hm => (List.not_mem_nil hm).elim) List.not_mem_nil hA hst
      have hS := (Ss.mk hE hst).env2 (e' := [(0, ptr b93 0)]) ⟨rfl, trivial⟩
      refine op_of_nth rfl ?_
      refine sto 0 ([str ([] : List UInt8)]) hS rfl rfl hB95 rfl rfl rfl rfl Tryd.sizeOf9 fun w f116 hB117 hS => ?_
      refine wpList_nil (then_n ?_)
      have hcl2 := hcl.cons (k := 3) (nth_get rfl) hpre
      have hmust := must_cons (k := 3) hm (chain (k := 3) hcl (nth_get rfl) hpre [] [] rfl (fun _ h => absurd h List.not_mem_nil))
      replace hst := hS.st
      have hav2 := hav.cons (vals' := [some (.iface 46 (.agg ⟨[.int .i64 e112]⟩)), some (.agg ⟨[.int .i64 e112]⟩), some (.int .i64 e112), some undef, none, none]) (k := 3) ⟨rfl, rfl, rfl, trivial⟩ rfl
      replace hA := (hA.next hav (subV.get (l' := [some (.iface 46 (.agg ⟨[.int .i64 e112]⟩)), some (.agg ⟨[.int .i64 e112]⟩), some (.int .i64 e112), some undef, none, none]) ⟨rfl, rfl, rfl, trivial⟩)).stepN (i := 3) (nth_get rfl) rfl
      clear hm hav
      replace hcl := hcl2
      refine phase' (vals := [some (.iface 46 (.agg ⟨[.int .i64 e112]⟩)), some (.agg ⟨[.int .i64 e112]⟩), some (.int .i64 e112), some undef, none, none]) 4 [3] [0, 1, 2] rfl rfl rfl rfl (by exact ⟨nR rfl rfl rfl rfl rfl (by exact ovE (mv rfl) rfl), nR rfl rfl rfl rfl rfl (by exact ovE (tas rfl Tryd.runUnderlying46 rfl) rfl), nR rfl rfl rfl rfl rfl (by exact ovE (fld rfl Tryd.runUnderlying46 rfl Tryd.isAgg23 rfl) rfl), trivial⟩) (fun D l a w ho hcl hav hpre hm hE hk hA hst => ?_) ho hcl hav2 hmust (hav2.notin rfl) hA hst
      have hS := (Ss.mk hE hst).env2 (e' := [(1, ptr b96 0)]) ⟨rfl, trivial⟩
      refine op_of_nth rfl ?_
      refine sto 1 ([.int .i64 (0 : Int)]) hS rfl rfl hB98 rfl rfl rfl rfl Tryd.sizeOf3 fun w f118 hB119 hS => ?_
      refine wpList_nil (then_n ?_)
      have hcl2 := hcl.cons (k := 4) (nth_get rfl) hpre
      have hmust := must_cons (k := 4) hm (chain (k := 4) hcl (nth_get rfl) hpre [(3, 4)] [] rfl (fun _ h => absurd h List.not_mem_nil))
      replace hst := hS.st
      have hav2 := hav.cons (vals' := [some (.iface 46 (.agg ⟨[.int .i64 e112]⟩)), some (.agg ⟨[.int .i64 e112]⟩), some (.int .i64 e112), some undef, some undef, none]) (k := 4) ⟨rfl, rfl, rfl, rfl, trivial⟩ rfl
      replace hA := (hA.next hav (subV.get (l' := [some (.iface 46 (.agg ⟨[.int .i64 e112]⟩)), some (.agg ⟨[.int .i64 e112]⟩), some (.int .i64 e112), some undef, some undef, none]) ⟨rfl, rfl, rfl, rfl, trivial⟩)).stepN (i := 4) (nth_get rfl) rfl
      clear hm hav
      replace hcl := hcl2
      refine phase' (vals := [some (.iface 46 (.agg ⟨[.int .i64 e112]⟩)), some (.agg ⟨[.int .i64 e112]⟩), some (.int .i64 e112), some undef, some undef, none]) 5 [4, 3, 3] [0, 1, 2] rfl rfl rfl rfl (by exact ⟨nR rfl rfl rfl rfl rfl (by exact ovE (mv rfl) rfl), nR rfl rfl rfl rfl rfl (by exact ovE (tas rfl Tryd.runUnderlying46 rfl) rfl), nR rfl rfl rfl rfl rfl (by exact ovE (fld rfl Tryd.runUnderlying46 rfl Tryd.isAgg23 rfl) rfl), trivial⟩) (fun D l a w ho hcl hav hpre hm hE hk hA hst => ?_) ho hcl hav2 hmust (hav2.notin rfl) hA hst
      have hS := (Ss.mk hE hst).env2 (e' := [(2, ptr b99 0), (9, .int .i64 e112)]) ⟨rfl, rfl, trivial⟩
      refine op_of_nth rfl ?_
      refine sto 2 ([.int .i64 e112]) hS rfl rfl hB101 rfl rfl rfl rfl Tryd.sizeOf23 fun w f120 hB121 hS => ?_
      refine wpList_nil (then_n ?_)
      have hcl2 := hcl.cons (k := 5) (nth_get rfl) hpre
      have hmust := must_cons (k := 5) hm (chain (k := 5) hcl (nth_get rfl) hpre [(0, 5), (1, 5), (2, 5), (3, 5), (4, 5)] [] rfl (fun _ h => absurd h List.not_mem_nil))
      replace hst := hS.st
      have hav2 := hav.cons (vals' := [some (.iface 46 (.agg ⟨[.int .i64 e112]⟩)), some (.agg ⟨[.int .i64 e112]⟩), some (.int .i64 e112), some undef, some undef, some undef]) (k := 5) ⟨rfl, rfl, rfl, rfl, rfl, trivial⟩ rfl
      replace hA := (hA.next hav (subV.get (l' := [some (.iface 46 (.agg ⟨[.int .i64 e112]⟩)), some (.agg ⟨[.int .i64 e112]⟩), some (.int .i64 e112), some undef, some undef, some undef]) ⟨rfl, rfl, rfl, rfl, rfl, trivial⟩)).stepN (i := 5) (nth_get rfl) rfl
      clear hm hav
      replace hcl := hcl2
      refine phaseE (vals := [some (.iface 46 (.agg ⟨[.int .i64 e112]⟩)), some (.agg ⟨[.int .i64 e112]⟩), some (.int .i64 e112), some undef, some undef, some undef]) [5, 0, 1, 2, 3, 4, 4, 3, 3] [] rfl rfl rfl trivial (fun a w hS => ?_) ho hcl hmust hA hst
      replace hS := hS.env2 (e' := []) trivial
      exact d_end hS rfl (leavesRet (vs := [str ([] : List UInt8), .int .i64 (0 : Int), .int .i64 e112]) hE115 hS.st rfl (by exact ⟨rvC 0 rfl hB117 rfl rfl Tryd.isAgg9, rvC 1 rfl hB119 rfl rfl Tryd.isAgg3, rvC 2 rfl hB121 rfl rfl Tryd.isAgg23, trivial⟩) (hret ([] : List UInt8) (0 : Int) e112 w hM (hS.st.pick [] (by kernel_rfl))))
    rw [inflate_Inflate.j2] at hM
    refine wpList_nil ?_
    refine then_n ?_
    refine wp_seq ?_
    refine wp_region_list ?_
    refine st1 hS (mv rfl) rfl fun a w hS => ?_
    refine s_call hS rfl Tryd.call19 (bits_New_c hG K s91 (hS.st.part 0 [0, 1, 2] (by kernel_rfl)) (wp_bind hM) (fun b129 f130 w hM h131 hst => s_back hS.ev hst.appF rfl fun hS => ?_))
    replace hS : Ss _ _ _ H [f130, f100, f97, f94] F _ _ := hS
    refine st1 hS (mv rfl) rfl fun a w hS => ?_
    refine st1 hS (bld ([ptr b129 0, .slice none 0 0, .int .i64 limit92]) [(0, 1), (1, 1), (2, 1)] Tryd.zeroValue51 Tryd.runUnderlying51 (by intro w; simp [Tryd.sizeOf27, Tryd.sizeOf3, Tryd.sizeOf48]) rfl rfl) rfl fun a w hS => ?_
    refine bx ([ptr b129 0, .slice none 0 0, .int .i64 limit92]) hS rfl rfl rfl fun w b132 f133 hB134 hS => ?_
    obtain ⟨f135, hV136, hS⟩ := hS.nilV 5 (ci .u8) 1
    refine st1 hS (asg rfl) rfl fun a w hS => ?_
    refine wpList_nil ?_
    refine then_n ?_
    refine seq_joinJ (fun a w => ∃ (at_1547 : Int) (f1548 : Frag) (A1550 : Option Addr) (c1551 : Nat) (out1552 : (List Int)) (f1553 : Frag) (f1555 : Frag), Ss 35 [⟨.fn (.func 18) ⟨[ptr b93 0, ptr b96 0, ptr b99 0]⟩, ⟨[]⟩⟩] [(4, ptr b93 0), (5, ptr b96 0), (6, ptr b99 0), (7, ptr b132 0)] H [f94, f97, f100, f1555, f1548, f1553] F a w ∧ (Blk f1548 b129 ([.int .i64 at_1547, str s91]) 65) ∧ (Vec 5 (ci .u8) 1 A1550 out1552 c1551 f1553) ∧ (Blk f1555 b132 ([ptr b129 0, .slice A1550 out1552.length c1551, .int .i64 limit92]) 51) ∧ (inflate_Inflate.j4 K s91 at_1547 out1552).wp kr kpd110) (fun J1557 hJ1557 => ?_) ?_
    · refine wp_block ?_
      refine s_loopJ (fun k1533 a w => ∃ (at_1523 : Int) (f1524 : Frag) (A1526 : Option Addr) (c1527 : Nat) (out1528 : (List Int)) (f1529 : Frag) (f1531 : Frag), Ss 35 [⟨.fn (.func 18) ⟨[ptr b93 0, ptr b96 0, ptr b99 0]⟩, ⟨[]⟩⟩] [(4, ptr b93 0), (5, ptr b96 0), (6, ptr b99 0), (7, ptr b132 0)] H [f94, f97, f100, f1531, f1524, f1529] F a w ∧ (Blk f1524 b129 ([.int .i64 at_1523, str s91]) 65) ∧ (Vec 5 (ci .u8) 1 A1526 out1528 c1527 f1529) ∧ (Blk f1531 b132 ([ptr b129 0, .slice A1526 out1528.length c1527, .int .i64 limit92]) 51) ∧ (inflate_Inflate.l3 K s91 limit92 k1533 at_1523 out1528).wp kr kpd110) K ?_ ?_ ?_
      · exact ⟨(0 : Int), f130, none, 0, ([] : List Int), f135, f133, hS.to [5, 4, 3, 1, 2, 0] (by kernel_rfl) ⟨rfl, rfl, rfl, rfl, trivial⟩, h131, hV136, hB134, hM⟩
      · intro a w hI; obtain ⟨_, _, _, _, _, _, _, _, _, _, _, hM⟩ := hI; exact hM
      · intro k1533 a w hI J1546 hJ1546
        obtain ⟨at_1523, f1524, A1526, c1527, out1528, f1529, f1531, hS, hB1525, hV1530, hB1532, hM⟩ := hI
        rw [inflate_Inflate.l3] at hM
        refine wp_seq ?_
        refine wp_seq ?_
        refine wp_region_list ?_
        refine st1 hS (mv rfl) rfl fun a w hS => ?_
        refine s_call hS rfl Tryd.call20 (inflate_reader_block_c hG K (T_inflate_reader.mk (T_bits_Reader.mk (T_bits_place.mk at_1523) s91) out1528 limit92) b132 f1531 b129 f1524 A1526 c1527 f1529 hB1532 hB1525 hV1530 (hS.st.part 3 [3, 4, 5, 0, 1, 2] (by kernel_rfl)) (wp_bind hM) (fun x1534 at_1535 f1536 A1537 c1538 out1539 f1540 f1541 w hM h1542 h1543 h1544 hst => s_back hS.ev hst.appF rfl fun hS => ?_) (fun v w hk hst => s_pan (then_pan (then_pan (then_pan (blk_pan (then_pan (hpd109 _ _ _ hk (hS.env2 (e' := [(4, ptr b93 0), (5, ptr b96 0), (6, ptr b99 0)]) ⟨rfl, rfl, rfl, trivial⟩).ev (hst.appF.pick [0, 1, 2] (by kernel_rfl))))))))))
        replace hS : Ss _ _ _ H [f1541, f1536, f1540, f94, f97, f100] F _ _ := hS
        refine st1 hS (un rfl rfl) rfl fun a w hS => ?_
        refine wpList_nil ?_
        refine then_n ?_
        refine s_cond hS rfl hM (fun hb1545 hM => ?_) (fun hb1545 hM => ?_)
        · refine wp_skip ?_
          refine then_n ?_
          refine wp_block ?_
          refine wp_skip ?_
          refine blk_n (then_n ?_)
          exact hJ1546 _ _ ⟨at_1535, f1536, A1537, c1538, out1539, f1540, f1541, hS.to [3, 4, 5, 0, 1, 2] (by kernel_rfl) ⟨rfl, rfl, rfl, rfl, trivial⟩, h1542, h1543, h1544, hM⟩
        · refine wp_exit ?_
          refine then_ex (then_ex (blk_same (then_n ?_)))
          exact hJ1557 _ _ ⟨at_1535, f1536, A1537, c1538, out1539, f1540, f1541, hS.to [3, 4, 5, 0, 1, 2] (by kernel_rfl) ⟨rfl, rfl, rfl, rfl, trivial⟩, h1542, h1543, h1544, hM⟩
    · intro a w hI
      obtain ⟨at_1547, f1548, A1550, c1551, out1552, f1553, f1555, hS, hB1549, hV1554, hB1556, hM⟩ := hI
      rw [inflate_Inflate.j4] at hM
      refine wp_seq ?_
      refine draw_begin (vals := [some (ptr b132 0), some (ptr b132 0), some (ptr b132 1), some (.slice A1550 out1552.length c1551), some (str (out1552.map tob)), some (ptr b132 0), some (ptr b132 0), some (ptr b132 0), some (ptr b129 0), none, none, none, none, none, none]) hS mixed rfl ?_
      intro l w ho hcl hA hst
      refine phase' (vals := [some (ptr b132 0), some (ptr b132 0), some (ptr b132 1), some (.slice A1550 out1552.length c1551), some (str (out1552.map tob)), some (ptr b132 0), some (ptr b132 0), some (ptr b132 0), some (ptr b129 0), none, none, none, none, none, none]) 9 [] [0, 1, 2, 3, 4, 5, 6, 7, 8] rfl rfl rfl rfl (by exact ⟨nR rfl rfl rfl rfl rfl (by exact ovE (mv rfl) rfl), nR rfl rfl rfl rfl rfl (by exact ovE (nck rfl) rfl), nR rfl rfl rfl rfl rfl (by exact ovE (fad rfl Tryd.runUnderlying51 rfl Tryd.sizeOf27 rfl) rfl), nR rfl rfl rfl rfl rfl (by exact ovE (ldb 3 rfl hB1556 rfl rfl Tryd.isAgg27) rfl), nR rfl rfl rfl rfl rfl (by exact ovE (cbs rfl Tryd.runUnderlying27 Tryd.runUnderlying5 Tryd.runUnderlying9 (hV1554.rd (i := 5) rfl)) rfl), nR rfl rfl rfl rfl rfl (by exact ovE (mv rfl) rfl), nR rfl rfl rfl rfl rfl (by exact ovE (nck rfl) rfl), nR rfl rfl rfl rfl rfl (by exact ovE (fad rfl Tryd.runUnderlying51 rfl Tryd.sizeOf48 rfl) rfl), nR rfl rfl rfl rfl rfl (by exact ovE (ldb 3 rfl hB1556 rfl rfl Tryd.isAgg48) rfl), trivial⟩) (fun D l a w ho hcl hav hpre hm hE hk hA hst => ?_) ho hcl (fun j hj => (List.not_mem_nil hj).elim) (fun m hm => (List.not_mem_nil hm).elim) List.not_mem_nil hA hst
      have hS := (Ss.mk hE hst).env2 (e' := [(31, ptr b129 0)]) ⟨rfl, trivial⟩
      refine op_of_nth rfl ?_
      refine s_call hS rfl Tryd.call21 (bits_Reader_At_c hG K (T_bits_Reader.mk (T_bits_place.mk at_1547) s91) b129 f1548 hB1549 (hS.st.part 1 [4, 0, 1, 2, 3, 5] (by kernel_rfl)) (wp_bind hM) (fun  w hM  hst => s_back hS.ev hst.appF rfl fun hS => ?_))
      replace hS : Ss _ _ _ H [f1548, f94, f97, f100, f1555, f1553] F _ _ := hS
      refine wpList_nil (then_n ?_)
      have hcl2 := hcl.cons (k := 9) (nth_get rfl) hpre
      have hmust := must_cons (k := 9) hm (chain (k := 9) hcl (nth_get rfl) hpre [(8, 9), (7, 8), (6, 7), (5, 6)] [] rfl (fun _ h => absurd h List.not_mem_nil))
      replace hst := hS.st
      have hav2 := hav.cons (vals' := [some (ptr b132 0), some (ptr b132 0), some (ptr b132 1), some (.slice A1550 out1552.length c1551), some (str (out1552.map tob)), some (ptr b132 0), some (ptr b132 0), some (ptr b132 0), some (ptr b129 0), some (.int .i64 at_1547), some (.int .i64 (w64 (at_1547 + (7 : Int)))), some (.int .i64 (iquo .i64 (w64 (at_1547 + (7 : Int))) (8 : Int))), none, none, none]) (k := 9) ⟨rfl, rfl, rfl, rfl, rfl, rfl, rfl, rfl, rfl, trivial⟩ rfl
      replace hA := (hA.next hav (subV.get (l' := [some (ptr b132 0), some (ptr b132 0), some (ptr b132 1), some (.slice A1550 out1552.length c1551), some (str (out1552.map tob)), some (ptr b132 0), some (ptr b132 0), some (ptr b132 0), some (ptr b129 0), some (.int .i64 at_1547), some (.int .i64 (w64 (at_1547 + (7 : Int)))), some (.int .i64 (iquo .i64 (w64 (at_1547 + (7 : Int))) (8 : Int))), none, none, none]) ⟨rfl, rfl, rfl, rfl, rfl, rfl, rfl, rfl, rfl, trivial⟩)).step rfl (nth_get rfl) hk rfl rfl rfl
      clear hm hav
      replace hcl := hcl2
      refine phase' (vals := [some (ptr b132 0), some (ptr b132 0), some (ptr b132 1), some (.slice A1550 out1552.length c1551), some (str (out1552.map tob)), some (ptr b132 0), some (ptr b132 0), some (ptr b132 0), some (ptr b129 0), some (.int .i64 at_1547), some (.int .i64 (w64 (at_1547 + (7 : Int)))), some (.int .i64 (iquo .i64 (w64 (at_1547 + (7 : Int))) (8 : Int))), none, none, none]) 12 [9, 8, 7, 6, 5] [0, 1, 2, 3, 4, 10, 11] rfl rfl rfl rfl (by exact ⟨nR rfl rfl rfl rfl rfl (by exact ovE (mv rfl) rfl), nR rfl rfl rfl rfl rfl (by exact ovE (nck rfl) rfl), nR rfl rfl rfl rfl rfl (by exact ovE (fad rfl Tryd.runUnderlying51 rfl Tryd.sizeOf27 rfl) rfl), nR rfl rfl rfl rfl rfl (by exact ovE (ldb 4 rfl hB1556 rfl rfl Tryd.isAgg27) rfl), nR rfl rfl rfl rfl rfl (by exact ovE (cbs rfl Tryd.runUnderlying27 Tryd.runUnderlying5 Tryd.runUnderlying9 (hV1554.rd (i := 5) rfl)) rfl), nR rfl rfl rfl rfl rfl (by exact ovE (bin rfl rfl rfl) rfl), nR rfl rfl rfl rfl rfl (by exact ovE (quo rfl rfl rfl) rfl), trivial⟩) (fun D l a w ho hcl hav hpre hm hE hk hA hst => ?_) ho hcl hav2 hmust (hav2.notin rfl) hA hst
      have hS := (Ss.mk hE hst).env2 (e' := [(4, ptr b93 0), (27, str (out1552.map tob))]) ⟨rfl, rfl, trivial⟩
      refine op_of_nth rfl ?_
      refine sto 1 ([str (out1552.map tob)]) hS rfl rfl hB95 rfl rfl rfl rfl Tryd.sizeOf9 fun w f1562 hB1563 hS => ?_
      refine wpList_nil (then_n ?_)
      have hcl2 := hcl.cons (k := 12) (nth_get rfl) hpre
      have hmust := must_cons (k := 12) hm (chain (k := 12) hcl (nth_get rfl) hpre [(0, 12), (1, 12), (2, 12), (3, 12), (4, 12), (9, 12), (8, 9), (7, 8), (6, 7), (5, 6)] [] rfl (fun _ h => absurd h List.not_mem_nil))
      replace hst := hS.st
      have hav2 := hav.cons (vals' := [some (ptr b132 0), some (ptr b132 0), some (ptr b132 1), some (.slice A1550 out1552.length c1551), some (str (out1552.map tob)), some (ptr b132 0), some (ptr b132 0), some (ptr b132 0), some (ptr b129 0), some (.int .i64 at_1547), some (.int .i64 (w64 (at_1547 + (7 : Int)))), some (.int .i64 (iquo .i64 (w64 (at_1547 + (7 : Int))) (8 : Int))), some undef, none, none]) (k := 12) ⟨rfl, rfl, rfl, rfl, rfl, rfl, rfl, rfl, rfl, rfl, rfl, rfl, trivial⟩ rfl
      replace hA := (hA.next hav (subV.get (l' := [some (ptr b132 0), some (ptr b132 0), some (ptr b132 1), some (.slice A1550 out1552.length c1551), some (str (out1552.map tob)), some (ptr b132 0), some (ptr b132 0), some (ptr b132 0), some (ptr b129 0), some (.int .i64 at_1547), some (.int .i64 (w64 (at_1547 + (7 : Int)))), some (.int .i64 (iquo .i64 (w64 (at_1547 + (7 : Int))) (8 : Int))), some undef, none, none]) ⟨rfl, rfl, rfl, rfl, rfl, rfl, rfl, rfl, rfl, rfl, rfl, rfl, trivial⟩)).stepN (i := 12) (nth_get rfl) rfl
      clear hm hav
      replace hcl := hcl2
      refine phase' (vals := [some (ptr b132 0), some (ptr b132 0), some (ptr b132 1), some (.slice A1550 out1552.length c1551), some (str (out1552.map tob)), some (ptr b132 0), some (ptr b132 0), some (ptr b132 0), some (ptr b129 0), some (.int .i64 at_1547), some (.int .i64 (w64 (at_1547 + (7 : Int)))), some (.int .i64 (iquo .i64 (w64 (at_1547 + (7 : Int))) (8 : Int))), some undef, none, none]) 13 [12, 0, 1, 2, 3, 4, 9, 8, 7, 6, 5, 9, 8, 7, 6, 5] [10, 11] rfl rfl rfl rfl (by exact ⟨nR rfl rfl rfl rfl rfl (by exact ovE (bin rfl rfl rfl) rfl), nR rfl rfl rfl rfl rfl (by exact ovE (quo rfl rfl rfl) rfl), trivial⟩) (fun D l a w ho hcl hav hpre hm hE hk hA hst => ?_) ho hcl hav2 hmust (hav2.notin rfl) hA hst
      have hS := (Ss.mk hE hst).env2 (e' := [(5, ptr b96 0), (34, .int .i64 (iquo .i64 (w64 (at_1547 + (7 : Int))) (8 : Int)))]) ⟨rfl, rfl, trivial⟩
      refine op_of_nth rfl ?_
      refine sto 2 ([.int .i64 (iquo .i64 (w64 (at_1547 + (7 : Int))) (8 : Int))]) hS rfl rfl hB98 rfl rfl rfl rfl Tryd.sizeOf3 fun w f1564 hB1565 hS => ?_
      refine wpList_nil (then_n ?_)
      have hcl2 := hcl.cons (k := 13) (nth_get rfl) hpre
      have hmust := must_cons (k := 13) hm (chain (k := 13) hcl (nth_get rfl) hpre [(0, 13), (1, 13), (2, 13), (3, 13), (4, 13), (5, 13), (6, 13), (7, 13), (8, 13), (9, 13), (10, 13), (11, 13), (12, 13)] [] rfl (fun _ h => absurd h List.not_mem_nil))
      replace hst := hS.st
      have hav2 := hav.cons (vals' := [some (ptr b132 0), some (ptr b132 0), some (ptr b132 1), some (.slice A1550 out1552.length c1551), some (str (out1552.map tob)), some (ptr b132 0), some (ptr b132 0), some (ptr b132 0), some (ptr b129 0), some (.int .i64 at_1547), some (.int .i64 (w64 (at_1547 + (7 : Int)))), some (.int .i64 (iquo .i64 (w64 (at_1547 + (7 : Int))) (8 : Int))), some undef, some undef, none]) (k := 13) ⟨rfl, rfl, rfl, rfl, rfl, rfl, rfl, rfl, rfl, rfl, rfl, rfl, rfl, trivial⟩ rfl
      replace hA := (hA.next hav (subV.get (l' := [some (ptr b132 0), some (ptr b132 0), some (ptr b132 1), some (.slice A1550 out1552.length c1551), some (str (out1552.map tob)), some (ptr b132 0), some (ptr b132 0), some (ptr b132 0), some (ptr b129 0), some (.int .i64 at_1547), some (.int .i64 (w64 (at_1547 + (7 : Int)))), some (.int .i64 (iquo .i64 (w64 (at_1547 + (7 : Int))) (8 : Int))), some undef, some undef, none]) ⟨rfl, rfl, rfl, rfl, rfl, rfl, rfl, rfl, rfl, rfl, rfl, rfl, rfl, trivial⟩)).stepN (i := 13) (nth_get rfl) rfl
      clear hm hav
      replace hcl := hcl2
      refine phase' (vals := [some (ptr b132 0), some (ptr b132 0), some (ptr b132 1), some (.slice A1550 out1552.length c1551), some (str (out1552.map tob)), some (ptr b132 0), some (ptr b132 0), some (ptr b132 0), some (ptr b129 0), some (.int .i64 at_1547), some (.int .i64 (w64 (at_1547 + (7 : Int)))), some (.int .i64 (iquo .i64 (w64 (at_1547 + (7 : Int))) (8 : Int))), some undef, some undef, none]) 14 [13, 0, 1, 2, 3, 4, 5, 6, 7, 8, 9, 10, 11, 12, 12, 0, 1, 2, 3, 4, 9, 8, 7, 6, 5, 9, 8, 7, 6, 5] [] rfl rfl rfl rfl trivial (fun D l a w ho hcl hav hpre hm hE hk hA hst => ?_) ho hcl hav2 hmust (hav2.notin rfl) hA hst
      have hS := (Ss.mk hE hst).env2 (e' := [(6, ptr b99 0)]) ⟨rfl, trivial⟩
      refine op_of_nth rfl ?_
      refine sto 3 ([.int .i64 (0 : Int)]) hS rfl rfl hB101 rfl rfl rfl rfl Tryd.sizeOf23 fun w f1566 hB1567 hS => ?_
      refine wpList_nil (then_n ?_)
      have hcl2 := hcl.cons (k := 14) (nth_get rfl) hpre
      have hmust := must_cons (k := 14) hm (chain (k := 14) hcl (nth_get rfl) hpre [(0, 14), (1, 14), (2, 14), (3, 14), (4, 14), (5, 14), (6, 14), (7, 14), (8, 14), (9, 14), (10, 14), (11, 14), (12, 14), (13, 14)] [] rfl (fun _ h => absurd h List.not_mem_nil))
      replace hst := hS.st
      have hav2 := hav.cons (vals' := [some (ptr b132 0), some (ptr b132 0), some (ptr b132 1), some (.slice A1550 out1552.length c1551), some (str (out1552.map tob)), some (ptr b132 0), some (ptr b132 0), some (ptr b132 0), some (ptr b129 0), some (.int .i64 at_1547), some (.int .i64 (w64 (at_1547 + (7 : Int)))), some (.int .i64 (iquo .i64 (w64 (at_1547 + (7 : Int))) (8 : Int))), some undef, some undef, some undef]) (k := 14) ⟨rfl, rfl, rfl, rfl, rfl, rfl, rfl, rfl, rfl, rfl, rfl, rfl, rfl, rfl, trivial⟩ rfl
      replace hA := (hA.next hav (subV.get (l' := [some (ptr b132 0), some (ptr b132 0), some (ptr b132 1), some (.slice A1550 out1552.length c1551), some (str (out1552.map tob)), some (ptr b132 0), some (ptr b132 0), some (ptr b132 0), some (ptr b129 0), some (.int .i64 at_1547), some (.int .i64 (w64 (at_1547 + (7 : Int)))), some (.int .i64 (iquo .i64 (w64 (at_1547 + (7 : Int))) (8 : Int))), some undef, some undef, some undef]) ⟨rfl, rfl, rfl, rfl, rfl, rfl, rfl, rfl, rfl, rfl, rfl, rfl, rfl, rfl, trivial⟩)).stepN (i := 14) (nth_get rfl) rfl
      clear hm hav
      replace hcl := hcl2
      refine phaseE (vals := [some (ptr b132 0), some (ptr b132 0), some (ptr b132 1), some (.slice A1550 out1552.length c1551), some (str (out1552.map tob)), some (ptr b132 0), some (ptr b132 0), some (ptr b132 0), some (ptr b129 0), some (.int .i64 at_1547), some (.int .i64 (w64 (at_1547 + (7 : Int)))), some (.int .i64 (iquo .i64 (w64 (at_1547 + (7 : Int))) (8 : Int))), some undef, some undef, some undef]) [14, 0, 1, 2, 3, 4, 5, 6, 7, 8, 9, 10, 11, 12, 13, 13, 0, 1, 2, 3, 4, 5, 6, 7, 8, 9, 10, 11, 12, 12, 0, 1, 2, 3, 4, 9, 8, 7, 6, 5, 9, 8, 7, 6, 5] [] rfl rfl rfl trivial (fun a w hS => ?_) ho hcl hmust hA hst
      replace hS := hS.env2 (e' := [(4, ptr b93 0), (5, ptr b96 0), (6, ptr b99 0)]) ⟨rfl, rfl, rfl, trivial⟩
      refine then_n ?_
      refine wp_ret ?_
      have hE1568 := hS.ev
      refine s_retD hS Tryd.call18 Tryd.func18 rfl Tryd.ntmps18 rfl rfl rfl fun a w hS => ?_
      refine wp_seq ?_
      refine wp_region_list ?_
      refine st1 hS (mv rfl) rfl fun a w hS => ?_
      refine st1 hS (ifN .neq rfl Tryd.runUnderlying20 rfl) rfl fun a w hS => ?_
      refine wpList_nil ?_
      refine then_n ?_
      refine s_condF hS rfl ?_
      refine wp_skip ?_
      exact d_end hS rfl (leavesRet (vs := [str (out1552.map tob), .int .i64 (iquo .i64 (w64 (at_1547 + (7 : Int))) (8 : Int)), .int .i64 (0 : Int)]) hE1568 hS.st rfl (by exact ⟨rvC 1 rfl hB1563 rfl rfl Tryd.isAgg9, rvC 2 rfl hB1565 rfl rfl Tryd.isAgg3, rvC 3 rfl hB1567 rfl rfl Tryd.isAgg23, trivial⟩) (hret (out1552.map tob) (iquo .i64 (w64 (at_1547 + (7 : Int))) (8 : Int)) (0 : Int) w hM (hS.st.pick [] (by kernel_rfl))))

theorem sums_AdlerMore_c {H : Imm} {F : List Frag} {w : World} {R : Ending → World → Prop} {kr : Int → Prop} {kp : Value → Prop} (hG : Gl H) (K : Nat) (a_1582 : Int) (s1583 : List UInt8)
    (hS : St w H [] F) (hm : (sums_AdlerMore.m K a_1582 s1583).wp kr kp)
    (hret : ∀ (x1617 : Int) (w : World), kr x1617 → St w H [] F → R (.returned (.int .u32 x1617)) w) :
    Calls Tryd.prog 22 ⟨[.int .u32 a_1582, str s1583]⟩ w R := by
  refine enter Tryd.func22 rfl Tryd.ntmps22 rfl hS fun a w hS => ?_
  have hM := hm; clear hm
  rw [sums_AdlerMore.m] at hM
  refine wp_seq ?_
  refine wp_region_list ?_
  refine st1 hS (asg rfl) rfl fun a w hS => ?_
  refine wpList_nil ?_
  refine then_n ?_
  refine wp_seq ?_
  refine wp_region_list ?_
  refine st1 hS (mv rfl) rfl fun a w hS => ?_
  refine st1 hS (bin rfl rfl rfl) rfl fun a w hS => ?_
  refine st1 hS (rem rfl rfl rfl) rfl fun a w hS => ?_
  refine st1 hS (mv rfl) rfl fun a w hS => ?_
  refine st1 hS (shr rfl rfl rfl) rfl fun a w hS => ?_
  refine st1 hS (rem rfl rfl rfl) rfl fun a w hS => ?_
  refine st1x (v := Value.int .u32) hS (asg rfl) rfl fun x1584 a w hz hS => ?_
  have hM := lt_to hz hM; clear hz
  refine st1x (v := Value.int .u32) hS (asg rfl) rfl fun y1585 a w hz hS => ?_
  have hM := lt_to hz hM; clear hz
  refine wpList_nil ?_
  refine then_n ?_
  refine seq_joinJ (fun a w => ∃ (x1613 : Int) (y1614 : Int), Ss 46 [] [(5, .int .u32 x1613), (6, .int .u32 y1614)] H [] F a w ∧ (sums_AdlerMore.j4 K x1613 y1614).wp kr kp) (fun J1615 hJ1615 => ?_) ?_
  · refine wp_block ?_
    refine s_loopJ (fun k1589 a w => ∃ (s1586 : List UInt8) (x1587 : Int) (y1588 : Int), Ss 46 [] [(1, str s1586), (5, .int .u32 x1587), (6, .int .u32 y1588)] H [] F a w ∧ (sums_AdlerMore.l1 K k1589 s1586 x1587 y1588).wp kr kp) K ?_ ?_ ?_
    · exact ⟨s1583, x1584, y1585, hS.to [] (by kernel_rfl) ⟨rfl, rfl, rfl, trivial⟩, hM⟩
    · intro a w hI; obtain ⟨_, _, _, _, hM⟩ := hI; exact hM
    · intro k1589 a w hI J1612 hJ1612
      obtain ⟨s1586, x1587, y1588, hS, hM⟩ := hI
      rw [sums_AdlerMore.l1] at hM
      refine wp_seq ?_
      refine wp_seq ?_
      refine wp_region_list ?_
      refine st1 hS (mv rfl) rfl fun a w hS => ?_
      refine st1 hS (lenS rfl Tryd.runUnderlying9) rfl fun a w hS => ?_
      refine st1 hS (bin rfl rfl rfl) rfl fun a w hS => ?_
      refine wpList_nil ?_
      refine then_n ?_
      refine s_cond hS rfl hM (fun hb1590 hM => ?_) (fun hb1590 hM => ?_)
      · refine wp_skip ?_
        refine then_n ?_
        refine wp_block ?_
        refine wp_seq ?_
        refine wp_region_list ?_
        refine st1 hS (mv rfl) rfl fun a w hS => ?_
        refine st1 hS (lenS rfl Tryd.runUnderlying9) rfl fun a w hS => ?_
        refine st1 hS (minI rfl rfl) rfl fun a w hS => ?_
        refine st1x (v := Value.int .i64) hS (asg rfl) rfl fun n_1591 a w hz hS => ?_
        have hM := lt_to hz hM; clear hz
        refine wpList_nil ?_
        refine then_n ?_
        refine seq_joinJ (fun a w => ∃ (x1601 : Int) (y1602 : Int), Ss 46 [] [(1, str s1586), (5, .int .u32 x1601), (6, .int .u32 y1602), (7, .int .i64 n_1591)] H [] F a w ∧ (sums_AdlerMore.j3 K (sums_AdlerMore.l1 K k1589) s1586 n_1591 x1601 y1602).wp kr kp) (fun J1603 hJ1603 => ?_) ?_
        · refine wp_seq ?_
          refine wp_region_list ?_
          refine st1 hS (mv rfl) rfl fun a w hS => ?_
          refine st1 hS (mv rfl) rfl fun a w hS => ?_
          refine wpList_nil ?_
          refine then_n ?_
          refine wp_block ?_
          refine s_loopJ (fun k1595 a w => ∃ (x1592 : Int) (y1593 : Int) (v1594 : Int), Ss 46 [] [(1, str s1586), (5, .int .u32 x1592), (6, .int .u32 y1593), (7, .int .i64 n_1591), (21, .int .i64 n_1591), (22, .int .i64 v1594)] H [] F a w ∧ (sums_AdlerMore.l2 K (sums_AdlerMore.l1 K k1589) s1586 n_1591 k1595 x1592 y1593 v1594).wp kr kp) K ?_ ?_ ?_
          · exact ⟨x1587, y1588, (0 : Int), hS.to [] (by kernel_rfl) ⟨rfl, rfl, rfl, rfl, rfl, rfl, trivial⟩, hM⟩
          · intro a w hI; obtain ⟨_, _, _, _, hM⟩ := hI; exact hM
          · intro k1595 a w hI J1600 hJ1600
            obtain ⟨x1592, y1593, v1594, hS, hM⟩ := hI
            rw [sums_AdlerMore.l2] at hM
            refine wp_seq ?_
            refine wp_region_list ?_
            refine st1 hS (bin rfl rfl rfl) rfl fun a w hS => ?_
            refine wpList_nil ?_
            refine then_n ?_
            refine wp_seq ?_
            refine s_cond hS rfl hM (fun hb1596 hM => ?_) (fun hb1596 hM => ?_)
            · refine wp_skip ?_
              refine then_n ?_
              refine wp_seq ?_
              refine wp_block ?_
              refine wp_seq ?_
              refine wp_region_list ?_
              refine st1 hS (mv rfl) rfl fun a w hS => ?_
              refine st1 hS (asg rfl) rfl fun a w hS => ?_
              refine wpList_nil ?_
              refine then_n ?_
              refine wp_seq ?_
              refine wp_region_list ?_
              refine st1 hS (mv rfl) rfl fun a w hS => ?_
              refine st1 hS (mv rfl) rfl fun a w hS => ?_
              refine st1 hS (mv rfl) rfl fun a w hS => ?_
              obtain ⟨hk1597, hM⟩ := wp_chk hM
              refine st1 hS (ixs rfl rfl Tryd.runUnderlying9 hk1597) rfl fun a w hS => ?_
              refine st1 hS (cvi rfl Tryd.runUnderlying5 Tryd.runUnderlying37) rfl fun a w hS => ?_
              refine st1 hS (bin rfl rfl rfl) rfl fun a w hS => ?_
              refine st1x (v := Value.int .u32) hS (asg rfl) rfl fun x1598 a w hz hS => ?_
              have hM := lt_to hz hM; clear hz
              refine wpList_nil ?_
              refine then_n ?_
              refine wp_region_list ?_
              refine st1 hS (mv rfl) rfl fun a w hS => ?_
              refine st1 hS (mv rfl) rfl fun a w hS => ?_
              refine st1 hS (bin rfl rfl rfl) rfl fun a w hS => ?_
              refine st1x (v := Value.int .u32) hS (asg rfl) rfl fun y1599 a w hz hS => ?_
              have hM := lt_to hz hM; clear hz
              refine wpList_nil ?_
              refine blk_n (then_n ?_)
              refine wp_region_list ?_
              refine st1 hS (bin rfl rfl rfl) rfl fun a w hS => ?_
              refine st1 hS (mv rfl) rfl fun a w hS => ?_
              refine wpList_nil ?_
              refine then_n ?_
              exact hJ1600 _ _ ⟨x1598, y1599, (w64 (v1594 + (1 : Int))), hS.to [] (by kernel_rfl) ⟨rfl, rfl, rfl, rfl, rfl, rfl, trivial⟩, hM⟩
            · refine wp_exit ?_
              refine then_ex (then_ex (blk_same (then_n ?_)))
              exact hJ1603 _ _ ⟨x1592, y1593, hS.to [] (by kernel_rfl) ⟨rfl, rfl, rfl, rfl, trivial⟩, hM⟩
        · intro a w hI
          obtain ⟨x1601, y1602, hS, hM⟩ := hI
          rw [sums_AdlerMore.j3] at hM
          obtain ⟨hk1605, hM⟩ := wp_chk hM
          obtain ⟨x1606, hz1607⟩ : ∃ x, x = (irem x1601 (65521 : Int)) := ⟨_, rfl⟩
          replace hM := lt_to hz1607 hM
          obtain ⟨y1608, hz1609⟩ : ∃ x, x = (irem y1602 (65521 : Int)) := ⟨_, rfl⟩
          replace hM := lt_to hz1609 hM
          obtain ⟨s1610, hz1611⟩ : ∃ x, x = (sub s1586 n_1591 (s1586.length : Int)) := ⟨_, rfl⟩
          replace hM := lt_to hz1611 hM
          refine draw_begin (vals := [some (.int .u32 x1601), some (.int .u32 (irem x1601 (65521 : Int))), some (.int .u32 y1602), some (.int .u32 (irem y1602 (65521 : Int))), some (str s1586), some (.int .i64 n_1591), some (str (sub s1586 n_1591 (s1586.length : Int))), some (.int .u32 x1606), some (.int .u32 y1608), some (str s1610)]) hS mixed rfl ?_
          intro l w ho hcl hA hst
          refine phaseE (vals := [some (.int .u32 x1601), some (.int .u32 (irem x1601 (65521 : Int))), some (.int .u32 y1602), some (.int .u32 (irem y1602 (65521 : Int))), some (str s1586), some (.int .i64 n_1591), some (str (sub s1586 n_1591 (s1586.length : Int))), some (.int .u32 x1606), some (.int .u32 y1608), some (str s1610)]) [] [0, 1, 2, 3, 4, 5, 6, 7, 8, 9] rfl rfl rfl (by exact ⟨nR rfl rfl rfl rfl rfl (by exact ovE (mv rfl) rfl), nR rfl rfl rfl rfl rfl (by exact ovE (rem rfl rfl rfl) rfl), nR rfl rfl rfl rfl rfl (by exact ovE (mv rfl) rfl), nR rfl rfl rfl rfl rfl (by exact ovE (rem rfl rfl rfl) rfl), nR rfl rfl rfl rfl rfl (by exact ovE (mv rfl) rfl), nR rfl rfl rfl rfl rfl (by exact ovE (mv rfl) rfl), nR rfl rfl rfl rfl rfl (by exact ovE (slS rfl Tryd.runUnderlying9 (loS rfl) hi0 hk1605) rfl), nR rfl rfl rfl rfl rfl (by exact ovE (asg rfl) (congrArg (Value.int .u32) hz1607.symm)), nR rfl rfl rfl rfl rfl (by exact ovE (asg rfl) (congrArg (Value.int .u32) hz1609.symm)), nR rfl rfl rfl rfl rfl (by exact ovE (asg rfl) (congrArg (str) hz1611.symm)), trivial⟩) (fun a w hS => ?_) ho hcl (fun m hm => (List.not_mem_nil hm).elim) hA hst
          replace hS := hS.env2 (e' := [(1, str s1610), (5, .int .u32 x1606), (6, .int .u32 y1608)]) ⟨rfl, rfl, rfl, trivial⟩
          refine blk_n (then_n ?_)
          exact hJ1612 _ _ ⟨s1610, x1606, y1608, hS.to [] (by kernel_rfl) ⟨rfl, rfl, rfl, trivial⟩, hM⟩
      · refine wp_exit ?_
        refine then_ex (then_ex (blk_same (then_n ?_)))
        exact hJ1615 _ _ ⟨x1587, y1588, hS.to [] (by kernel_rfl) ⟨rfl, rfl, trivial⟩, hM⟩
  · intro a w hI
    obtain ⟨x1613, y1614, hS, hM⟩ := hI
    rw [sums_AdlerMore.j4] at hM
    refine wp_seq ?_
    refine wp_region_list ?_
    refine st1 hS (mv rfl) rfl fun a w hS => ?_
    refine st1 hS (shl rfl rfl rfl) rfl fun a w hS => ?_
    refine st1 hS (mv rfl) rfl fun a w hS => ?_
    refine st1 hS (bin rfl rfl rfl) rfl fun a w hS => ?_
    refine st1x (v := Value.int .u32) hS (asg rfl) rfl fun v1616 a w hz hS => ?_
    have hM := lt_to hz hM; clear hz
    refine wpList_nil ?_
    refine then_n ?_
    refine wp_ret ?_
    exact s_ret (rs := [4]) hS rfl rfl (hret v1616 w hM (hS.st.pick [] (by kernel_rfl)))

theorem sums_Adler_c {H : Imm} {F : List Frag} {w : World} {R : Ending → World → Prop} {kr : Int → Prop} {kp : Value → Prop} (hG : Gl H) (K : Nat) (s1581 : List UInt8)
    (hS : St w H [] F) (hm : (sums_Adler.m K s1581).wp kr kp)
    (hret : ∀ (x1619 : Int) (w : World), kr x1619 → St w H [] F → R (.returned (.int .u32 x1619)) w) :
    Calls Tryd.prog 11 ⟨[str s1581]⟩ w R := by
  refine enter Tryd.func11 rfl Tryd.ntmps11 rfl hS fun a w hS => ?_
  have hM := hm; clear hm
  rw [sums_Adler.m] at hM
  refine wp_seq ?_
  refine wp_region_list ?_
  refine st1 hS (asg rfl) rfl fun a w hS => ?_
  refine wpList_nil ?_
  refine then_n ?_
  refine wp_seq ?_
  refine wp_region_list ?_
  refine st1 hS (mv rfl) rfl fun a w hS => ?_
  refine s_call hS rfl Tryd.call22 (sums_AdlerMore_c hG K (1 : Int) s1581 (hS.st.part 0 [] (by kernel_rfl)) (wp_bind hM) (fun x1618 w hM  hst => s_back hS.ev hst.appF rfl fun hS => ?_))
  replace hS : Ss _ _ _ H [] F _ _ := hS
  refine st1 hS (asg rfl) rfl fun a w hS => ?_
  refine wpList_nil ?_
  refine then_n ?_
  refine wp_ret ?_
  exact s_ret (rs := [2]) hS rfl rfl (hret x1618 w hM (hS.st.pick [] (by kernel_rfl)))

theorem zlib_Unzip_c {H : Imm} {F : List Frag} {w : World} {R : Ending → World → Prop} {kr : ((List UInt8) × Int × Int) → Prop} {kp : Value → Prop} (hG : Gl H) (K : Nat) (s4 : List UInt8) (limit5 : Int)
    (hS : St w H [] F) (hm : (zlib_Unzip.m K s4 limit5).wp kr kp)
    (hret : ∀ (x1624 : List UInt8) (x1625 : Int) (x1626 : Int) (w : World), kr (x1624, x1625, x1626) → St w H [] F → R (.returned (.tuple ⟨[str x1624, .int .i64 x1625, .int .i64 x1626]⟩)) w) :
    Calls Tryd.prog 6 ⟨[str s4, .int .i64 limit5]⟩ w R := by
  refine enter Tryd.func6 rfl Tryd.ntmps6 rfl hS fun a w hS => ?_
  have hM := hm; clear hm
  rw [zlib_Unzip.m] at hM
  refine wp_seq ?_
  refine wp_region_list ?_
  refine st1 hS (asg rfl) rfl fun a w hS => ?_
  refine st1 hS (asg rfl) rfl fun a w hS => ?_
  refine st1 hS (asg rfl) rfl fun a w hS => ?_
  refine wpList_nil ?_
  refine then_n ?_
  refine wp_seq ?_
  refine wp_seq ?_
  refine wp_region_list ?_
  refine st1 hS (mv rfl) rfl fun a w hS => ?_
  refine st1 hS (bin rfl rfl rfl) rfl fun a w hS => ?_
  refine st1 hS (mv rfl) rfl fun a w hS => ?_
  refine g_op 2 false 15 (b := (decide (limit5 < (0 : Int)))) (r := (decide (limit5 > (1073741824 : Int)))) hS rfl rfl rfl rfl rfl rfl rfl (fun hb a w hS K hK => ?_) rfl fun a w hS => ?_
  · refine st1g hS rfl rfl rfl hb (mv rfl) rfl fun a w hS => ?_
    refine st1g hS rfl rfl rfl hb (bin rfl rfl rfl) rfl fun a w hS => ?_
    exact wpList_nil (hK _ _ (hS.up 2 rfl rfl))
  refine wpList_nil ?_
  refine then_n ?_
  refine s_cond hS rfl hM (fun hb6 hM => ?_) (fun hb6 hM => ?_)
  · refine wp_seq ?_
    refine wp_region_list ?_
    refine st1 hS (asg rfl) rfl fun a w hS => ?_
    refine st1 hS (asg rfl) rfl fun a w hS => ?_
    refine st1 hS (asg rfl) rfl fun a w hS => ?_
    refine wpList_nil ?_
    refine then_n ?_
    refine wp_ret ?_
    refine then_ret ?_
    exact s_ret (rs := [4, 5, 6]) hS rfl rfl (hret ([] : List UInt8) (0 : Int) (1 : Int) w hM (hS.st.pick [] (by kernel_rfl)))
  · refine wp_skip ?_
    refine then_n ?_
    refine wp_seq ?_
    refine wp_region_list ?_
    refine st1 hS (asg rfl) rfl fun a w hS => ?_
    refine wpList_nil ?_
    refine then_n ?_
    refine wp_seq ?_
    refine wp_region_list ?_
    refine st1 hS (mv rfl) rfl fun a w hS => ?_
    refine st1 hS (mv rfl) rfl fun a w hS => ?_
    refine s_call hS rfl Tryd.call9 (win_Of_c hG K s4 (hS.st.part 0 [] (by kernel_rfl)) (wp_bind hM) (fun  w hM  hst => s_back hS.ev hst.appF rfl fun hS => ?_))
    replace hS : Ss _ _ _ H [] F _ _ := hS
    refine s_callV hS rfl rfl Tryd.call8 (win_Window_Uint_true_c hG K (T_win_Window.mk s4 (0 : Int)) (0 : Int) (2 : Int) (hS.st.part 0 [] (by kernel_rfl)) (wp_bind hM) (fun x86 x87 w hM  hst => s_back hS.ev hst.appF rfl fun hS => ?_))
    replace hS : Ss _ _ _ H [] F _ _ := hS
    refine st1 hS (mv rfl) rfl fun a w hS => ?_
    refine st1 hS (ex rfl rfl) rfl fun a w hS => ?_
    refine st1 hS (ex rfl rfl) rfl fun a w hS => ?_
    refine st1 hS (asg rfl) rfl fun a w hS => ?_
    refine st1 hS (asg rfl) rfl fun a w hS => ?_
    refine wpList_nil ?_
    refine then_n ?_
    refine wp_seq ?_
    refine wp_seq ?_
    refine wp_region_list ?_
    refine st1 hS (mv rfl) rfl fun a w hS => ?_
    refine st1 hS (bin rfl rfl rfl) rfl fun a w hS => ?_
    refine wpList_nil ?_
    refine then_n ?_
    refine s_cond hS rfl hM (fun hb88 hM => ?_) (fun hb88 hM => ?_)
    · refine wp_seq ?_
      refine wp_region_list ?_
      refine st1 hS (mv rfl) rfl fun a w hS => ?_
      refine st1 hS (asg rfl) rfl fun a w hS => ?_
      refine st1 hS (asg rfl) rfl fun a w hS => ?_
      refine st1 hS (asg rfl) rfl fun a w hS => ?_
      refine wpList_nil ?_
      refine then_n ?_
      refine wp_ret ?_
      refine then_ret ?_
      exact s_ret (rs := [4, 5, 6]) hS rfl rfl (hret ([] : List UInt8) (0 : Int) x87 w hM (hS.st.pick [] (by kernel_rfl)))
    · refine wp_skip ?_
      refine then_n ?_
      refine wp_seq ?_
      refine wp_seq ?_
      refine wp_region_list ?_
      refine st1 hS (mv rfl) rfl fun a w hS => ?_
      refine st1 hS (shr rfl rfl rfl) rfl fun a w hS => ?_
      refine st1 hS (bin rfl rfl rfl) rfl fun a w hS => ?_
      refine st1 hS (bin rfl rfl rfl) rfl fun a w hS => ?_
      refine st1 hS (mv rfl) rfl fun a w hS => ?_
      refine g_op 3 false 33 (b := ((iand .u64 (ishr .u64 x86 (8 : Int)) (15 : Int)) != (8 : Int))) (r := (decide ((ishr .u64 x86 (12 : Int)) > (7 : Int)))) hS rfl rfl rfl rfl rfl rfl rfl (fun hb a w hS K hK => ?_) rfl fun a w hS => ?_
      · refine st1g hS rfl rfl rfl hb (mv rfl) rfl fun a w hS => ?_
        refine st1g hS rfl rfl rfl hb (shr rfl rfl rfl) rfl fun a w hS => ?_
        refine st1g hS rfl rfl rfl hb (bin rfl rfl rfl) rfl fun a w hS => ?_
        exact wpList_nil (hK _ _ (hS.up 3 rfl rfl))
      refine st1 hS (mv rfl) rfl fun a w hS => ?_
      refine g_op 3 false 38 (b := (((iand .u64 (ishr .u64 x86 (8 : Int)) (15 : Int)) != (8 : Int)) || (decide ((ishr .u64 x86 (12 : Int)) > (7 : Int))))) (r := ((irem x86 (31 : Int)) != (0 : Int))) hS rfl rfl rfl rfl rfl rfl rfl (fun hb a w hS K hK => ?_) rfl fun a w hS => ?_
      · refine st1g hS rfl rfl rfl hb (mv rfl) rfl fun a w hS => ?_
        refine st1g hS rfl rfl rfl hb (rem rfl rfl rfl) rfl fun a w hS => ?_
        refine st1g hS rfl rfl rfl hb (bin rfl rfl rfl) rfl fun a w hS => ?_
        exact wpList_nil (hK _ _ (hS.up 3 rfl rfl))
      refine st1 hS (mv rfl) rfl fun a w hS => ?_
      refine g_op 3 false 43 (b := ((((iand .u64 (ishr .u64 x86 (8 : Int)) (15 : Int)) != (8 : Int)) || (decide ((ishr .u64 x86 (12 : Int)) > (7 : Int)))) || ((irem x86 (31 : Int)) != (0 : Int)))) (r := ((iand .u64 x86 (32 : Int)) != (0 : Int))) hS rfl rfl rfl rfl rfl rfl rfl (fun hb a w hS K hK => ?_) rfl fun a w hS => ?_
      · refine st1g hS rfl rfl rfl hb (mv rfl) rfl fun a w hS => ?_
        refine st1g hS rfl rfl rfl hb (bin rfl rfl rfl) rfl fun a w hS => ?_
        refine st1g hS rfl rfl rfl hb (bin rfl rfl rfl) rfl fun a w hS => ?_
        exact wpList_nil (hK _ _ (hS.up 3 rfl rfl))
      refine wpList_nil ?_
      refine then_n ?_
      refine s_cond hS rfl hM (fun hb89 hM => ?_) (fun hb89 hM => ?_)
      · refine wp_seq ?_
        refine wp_region_list ?_
        refine st1 hS (asg rfl) rfl fun a w hS => ?_
        refine st1 hS (asg rfl) rfl fun a w hS => ?_
        refine st1 hS (asg rfl) rfl fun a w hS => ?_
        refine wpList_nil ?_
        refine then_n ?_
        refine wp_ret ?_
        refine then_ret ?_
        exact s_ret (rs := [4, 5, 6]) hS rfl rfl (hret ([] : List UInt8) (0 : Int) (3 : Int) w hM (hS.st.pick [] (by kernel_rfl)))
      · refine wp_skip ?_
        refine then_n ?_
        refine wp_seq ?_
        refine wp_region_list ?_
        refine st1 hS (mv rfl) rfl fun a w hS => ?_
        obtain ⟨hk90, hM⟩ := wp_chk hM
        refine st1 hS (slS rfl Tryd.runUnderlying9 (loS rfl) hi0 hk90) rfl fun a w hS => ?_
        refine st1 hS (mv rfl) rfl fun a w hS => ?_
        refine s_call hS rfl Tryd.call10 (inflate_Inflate_c hG K (sub s4 (2 : Int) (s4.length : Int)) limit5 (hS.st.part 0 [] (by kernel_rfl)) (wp_bind hM) (fun x1572 x1573 x1574 w hM  hst => s_back hS.ev hst.appF rfl fun hS => ?_))
        replace hS : Ss _ _ _ H [] F _ _ := hS
        refine st1 hS (mv rfl) rfl fun a w hS => ?_
        refine st1 hS (ex rfl rfl) rfl fun a w hS => ?_
        refine st1 hS (ex rfl rfl) rfl fun a w hS => ?_
        refine st1 hS (ex rfl rfl) rfl fun a w hS => ?_
        refine st1 hS (asg rfl) rfl fun a w hS => ?_
        refine st1 hS (asg rfl) rfl fun a w hS => ?_
        refine st1 hS (asg rfl) rfl fun a w hS => ?_
        refine wpList_nil ?_
        refine then_n ?_
        refine wp_seq ?_
        refine wp_seq ?_
        refine wp_region_list ?_
        refine st1 hS (mv rfl) rfl fun a w hS => ?_
        refine st1 hS (bin rfl rfl rfl) rfl fun a w hS => ?_
        refine wpList_nil ?_
        refine then_n ?_
        refine s_cond hS rfl hM (fun hb1575 hM => ?_) (fun hb1575 hM => ?_)
        · refine wp_seq ?_
          refine wp_region_list ?_
          refine st1 hS (mv rfl) rfl fun a w hS => ?_
          refine st1 hS (asg rfl) rfl fun a w hS => ?_
          refine st1 hS (asg rfl) rfl fun a w hS => ?_
          refine st1 hS (asg rfl) rfl fun a w hS => ?_
          refine wpList_nil ?_
          refine then_n ?_
          refine wp_ret ?_
          refine then_ret ?_
          exact s_ret (rs := [4, 5, 6]) hS rfl rfl (hret ([] : List UInt8) (0 : Int) x1574 w hM (hS.st.pick [] (by kernel_rfl)))
        · refine wp_skip ?_
          refine then_n ?_
          refine wp_seq ?_
          refine wp_region_list ?_
          refine st1 hS (mv rfl) rfl fun a w hS => ?_
          refine st1 hS (bin rfl rfl rfl) rfl fun a w hS => ?_
          refine st1x (v := Value.int .i64) hS (asg rfl) rfl fun used1576 a w hz hS => ?_
          have hM := lt_to hz hM; clear hz
          refine wpList_nil ?_
          refine then_n ?_
          refine wp_seq ?_
          refine wp_region_list ?_
          refine st1 hS (mv rfl) rfl fun a w hS => ?_
          refine st1 hS (mv rfl) rfl fun a w hS => ?_
          refine s_call hS rfl Tryd.call9 (win_Of_c hG K s4 (hS.st.part 0 [] (by kernel_rfl)) (wp_bind hM) (fun  w hM  hst => s_back hS.ev hst.appF rfl fun hS => ?_))
          replace hS : Ss _ _ _ H [] F _ _ := hS
          refine st1 hS (mv rfl) rfl fun a w hS => ?_
          refine s_callV hS rfl rfl Tryd.call8 (win_Window_Uint_true_c hG K (T_win_Window.mk s4 (0 : Int)) used1576 (4 : Int) (hS.st.part 0 [] (by kernel_rfl)) (wp_bind hM) (fun x1577 x1578 w hM  hst => s_back hS.ev hst.appF rfl fun hS => ?_))
          replace hS : Ss _ _ _ H [] F _ _ := hS
          refine st1 hS (mv rfl) rfl fun a w hS => ?_
          refine st1 hS (ex rfl rfl) rfl fun a w hS => ?_
          refine st1 hS (ex rfl rfl) rfl fun a w hS => ?_
          refine st1 hS (asg rfl) rfl fun a w hS => ?_
          refine st1 hS (asg rfl) rfl fun a w hS => ?_
          refine wpList_nil ?_
          refine then_n ?_
          refine wp_seq ?_
          refine wp_block ?_
          refine wp_seq ?_
          refine wp_region_list ?_
          refine st1 hS (mv rfl) rfl fun a w hS => ?_
          refine st1 hS (bin rfl rfl rfl) rfl fun a w hS => ?_
          refine st1x (v := Value.bool) hS (asg rfl) rfl fun v1579 a w hz hS => ?_
          have hM := lt_to hz hM; clear hz
          refine wpList_nil ?_
          refine then_n ?_
          refine s_cond hS rfl hM (fun hb1580 hM => ?_) (fun hb1580 hM => ?_)
          · refine wp_seq ?_
            refine wp_region_list ?_
            refine st1 hS (mv rfl) rfl fun a w hS => ?_
            refine st1 hS (asg rfl) rfl fun a w hS => ?_
            refine st1 hS (asg rfl) rfl fun a w hS => ?_
            refine st1 hS (asg rfl) rfl fun a w hS => ?_
            refine wpList_nil ?_
            refine then_n ?_
            refine wp_ret ?_
            refine blk_ret (then_ret ?_)
            exact s_ret (rs := [4, 5, 6]) hS rfl rfl (hret ([] : List UInt8) (0 : Int) x1578 w hM (hS.st.pick [] (by kernel_rfl)))
          · refine wp_seq ?_
            refine wp_region_list ?_
            refine st1 hS (mv rfl) rfl fun a w hS => ?_
            refine st1 hS (cvi rfl Tryd.runUnderlying34 Tryd.runUnderlying37) rfl fun a w hS => ?_
            refine st1 hS (mv rfl) rfl fun a w hS => ?_
            refine s_call hS rfl Tryd.call11 (sums_Adler_c hG K x1572 (hS.st.part 0 [] (by kernel_rfl)) (wp_bind hM) (fun x1620 w hM  hst => s_back hS.ev hst.appF rfl fun hS => ?_))
            replace hS : Ss _ _ _ H [] F _ _ := hS
            refine st1 hS (bin rfl rfl rfl) rfl fun a w hS => ?_
            refine st1x (v := Value.bool) hS (asg rfl) rfl fun v1621 a w hz hS => ?_
            have hM := lt_to hz hM; clear hz
            refine wpList_nil ?_
            refine then_n ?_
            refine s_cond hS rfl hM (fun hb1622 hM => ?_) (fun hb1622 hM => ?_)
            · refine wp_seq ?_
              refine wp_region_list ?_
              refine st1 hS (asg rfl) rfl fun a w hS => ?_
              refine st1 hS (asg rfl) rfl fun a w hS => ?_
              refine st1 hS (asg rfl) rfl fun a w hS => ?_
              refine wpList_nil ?_
              refine then_n ?_
              refine wp_ret ?_
              refine blk_ret (then_ret ?_)
              exact s_ret (rs := [4, 5, 6]) hS rfl rfl (hret ([] : List UInt8) (0 : Int) (4 : Int) w hM (hS.st.pick [] (by kernel_rfl)))
            · refine wp_skip ?_
              refine blk_n (then_n ?_)
              refine wp_seq ?_
              refine wp_region_list ?_
              refine st1 hS (mv rfl) rfl fun a w hS => ?_
              refine st1 hS (mv rfl) rfl fun a w hS => ?_
              refine st1 hS (bin rfl rfl rfl) rfl fun a w hS => ?_
              refine st1 hS (asg rfl) rfl fun a w hS => ?_
              refine st1x (v := Value.int .i64) hS (asg rfl) rfl fun v1623 a w hz hS => ?_
              have hM := lt_to hz hM; clear hz
              refine st1 hS (asg rfl) rfl fun a w hS => ?_
              refine wpList_nil ?_
              refine then_n ?_
              refine wp_ret ?_
              exact s_ret (rs := [4, 5, 6]) hS rfl rfl (hret x1572 v1623 (0 : Int) w hM (hS.st.pick [] (by kernel_rfl)))

theorem mortiselaw10_live_c {H : Imm} {F : List Frag} {w : World} {R : Ending → World → Prop} {kr : Bool → Prop} {kp : Value → Prop} (hG : Gl H) (K : Nat)
    (hS : St w H [] F) (hm : (mortiselaw10_live.m K).wp kr kp)
    (hret : ∀ (x1637 : Bool) (w : World), kr x1637 → St w H [] F → R (.returned (.bool x1637)) w) :
    Calls Tryd.prog 5 ⟨[]⟩ w R := by
  refine enter Tryd.func5 rfl Tryd.ntmps5 rfl hS fun a w hS => ?_
  have hM := hm; clear hm
  rw [mortiselaw10_live.m] at hM
  refine wp_seq ?_
  refine wp_region_list ?_
  refine st1 hS (asg rfl) rfl fun a w hS => ?_
  refine wpList_nil ?_
  refine then_n ?_
  refine wp_seq ?_
  refine wp_region_list ?_
  refine s_call hS rfl Tryd.call6 (zlib_Unzip_c hG K ([120, 156, 3, 0, 0, 0, 0, 1, 122] : List UInt8) (0 : Int) (hS.st.part 0 [] (by kernel_rfl)) (wp_bind hM) (fun x1627 x1628 x1629 w hM  hst => s_back hS.ev hst.appF rfl fun hS => ?_))
  replace hS : Ss _ _ _ H [] F _ _ := hS
  refine st1 hS (mv rfl) rfl fun a w hS => ?_
  refine st1 hS (ex rfl rfl) rfl fun a w hS => ?_
  refine st1 hS (ex rfl rfl) rfl fun a w hS => ?_
  refine st1 hS (ex rfl rfl) rfl fun a w hS => ?_
  refine st1 hS (asg rfl) rfl fun a w hS => ?_
  refine st1 hS (asg rfl) rfl fun a w hS => ?_
  refine st1 hS (asg rfl) rfl fun a w hS => ?_
  refine wpList_nil ?_
  refine then_n ?_
  refine wp_seq ?_
  refine wp_region_list ?_
  refine s_call hS rfl Tryd.call6 (zlib_Unzip_c hG K ([120, 156, 3, 0, 0, 0, 0, 2] : List UInt8) (0 : Int) (hS.st.part 0 [] (by kernel_rfl)) (wp_bind hM) (fun x1630 x1631 x1632 w hM  hst => s_back hS.ev hst.appF rfl fun hS => ?_))
  replace hS : Ss _ _ _ H [] F _ _ := hS
  refine st1 hS (mv rfl) rfl fun a w hS => ?_
  refine st1 hS (ex rfl rfl) rfl fun a w hS => ?_
  refine st1 hS (ex rfl rfl) rfl fun a w hS => ?_
  refine st1 hS (ex rfl rfl) rfl fun a w hS => ?_
  refine st1 hS (asg rfl) rfl fun a w hS => ?_
  refine st1 hS (asg rfl) rfl fun a w hS => ?_
  refine st1 hS (asg rfl) rfl fun a w hS => ?_
  refine wpList_nil ?_
  refine then_n ?_
  refine wp_seq ?_
  refine wp_region_list ?_
  refine s_call hS rfl Tryd.call6 (zlib_Unzip_c hG K ([120, 157] : List UInt8) (0 : Int) (hS.st.part 0 [] (by kernel_rfl)) (wp_bind hM) (fun x1633 x1634 x1635 w hM  hst => s_back hS.ev hst.appF rfl fun hS => ?_))
  replace hS : Ss _ _ _ H [] F _ _ := hS
  refine st1 hS (mv rfl) rfl fun a w hS => ?_
  refine st1 hS (ex rfl rfl) rfl fun a w hS => ?_
  refine st1 hS (ex rfl rfl) rfl fun a w hS => ?_
  refine st1 hS (ex rfl rfl) rfl fun a w hS => ?_
  refine st1 hS (asg rfl) rfl fun a w hS => ?_
  refine st1 hS (asg rfl) rfl fun a w hS => ?_
  refine st1 hS (asg rfl) rfl fun a w hS => ?_
  refine wpList_nil ?_
  refine then_n ?_
  refine wp_seq ?_
  refine wp_region_list ?_
  refine st1 hS (mv rfl) rfl fun a w hS => ?_
  refine st1 hS (bins rfl rfl rfl) rfl fun a w hS => ?_
  refine st1 hS (mv rfl) rfl fun a w hS => ?_
  refine g_op 2 true 27 (b := (x1627 == ([] : List UInt8))) (r := (x1628 == (8 : Int))) hS rfl rfl rfl rfl rfl rfl rfl (fun hb a w hS K hK => ?_) rfl fun a w hS => ?_
  · refine st1g hS rfl rfl rfl hb (mv rfl) rfl fun a w hS => ?_
    refine st1g hS rfl rfl rfl hb (bin rfl rfl rfl) rfl fun a w hS => ?_
    exact wpList_nil (hK _ _ (hS.up 2 rfl rfl))
  refine st1 hS (mv rfl) rfl fun a w hS => ?_
  refine g_op 2 true 31 (b := ((x1627 == ([] : List UInt8)) && (x1628 == (8 : Int)))) (r := (x1629 == (0 : Int))) hS rfl rfl rfl rfl rfl rfl rfl (fun hb a w hS K hK => ?_) rfl fun a w hS => ?_
  · refine st1g hS rfl rfl rfl hb (mv rfl) rfl fun a w hS => ?_
    refine st1g hS rfl rfl rfl hb (bin rfl rfl rfl) rfl fun a w hS => ?_
    exact wpList_nil (hK _ _ (hS.up 2 rfl rfl))
  refine st1 hS (mv rfl) rfl fun a w hS => ?_
  refine g_op 2 true 35 (b := (((x1627 == ([] : List UInt8)) && (x1628 == (8 : Int))) && (x1629 == (0 : Int)))) (r := (x1632 == (4 : Int))) hS rfl rfl rfl rfl rfl rfl rfl (fun hb a w hS K hK => ?_) rfl fun a w hS => ?_
  · refine st1g hS rfl rfl rfl hb (mv rfl) rfl fun a w hS => ?_
    refine st1g hS rfl rfl rfl hb (bin rfl rfl rfl) rfl fun a w hS => ?_
    exact wpList_nil (hK _ _ (hS.up 2 rfl rfl))
  refine st1 hS (mv rfl) rfl fun a w hS => ?_
  refine g_op 2 true 39 (b := ((((x1627 == ([] : List UInt8)) && (x1628 == (8 : Int))) && (x1629 == (0 : Int))) && (x1632 == (4 : Int)))) (r := (x1635 == (3 : Int))) hS rfl rfl rfl rfl rfl rfl rfl (fun hb a w hS K hK => ?_) rfl fun a w hS => ?_
  · refine st1g hS rfl rfl rfl hb (mv rfl) rfl fun a w hS => ?_
    refine st1g hS rfl rfl rfl hb (bin rfl rfl rfl) rfl fun a w hS => ?_
    exact wpList_nil (hK _ _ (hS.up 2 rfl rfl))
  refine st1x (v := Value.bool) hS (asg rfl) rfl fun v1636 a w hz hS => ?_
  have hM := lt_to hz hM; clear hz
  refine wpList_nil ?_
  refine then_n ?_
  refine wp_ret ?_
  exact s_ret (rs := [0]) hS rfl rfl (hret v1636 w hM (hS.st.pick [] (by kernel_rfl)))

theorem mortiseref05_Reader_Bits_c {H : Imm} {F : List Frag} {w : World} {R : Ending → World → Prop} {kr : (Int × Int × Int) → Prop} {kp : Value → Prop} (hG : Gl H) (K : Nat) (r1688 : T_mortiseref05_Reader) (n_1692 : Int) (b1689 : Nat) (f1690 : Frag) (hB1691 : Blk f1690 b1689 ([str r1688.S_, .int .i64 r1688.At_]) 57)
    (hS : St w H [f1690] F) (hm : (mortiseref05_Reader_Bits.m K r1688 n_1692).wp kr kp)
    (hret : ∀ (x1711 : Int) (x1712 : Int) (at_1713 : Int) (f1714 : Frag) (w : World), kr (x1711, x1712, at_1713) → (Blk f1714 b1689 ([str r1688.S_, .int .i64 at_1713]) 57) → St w H [f1714] F → R (.returned (.tuple ⟨[.int .u32 x1711, .int .i64 x1712]⟩)) w) :
    Calls Tryd.prog 46 ⟨[ptr b1689 0, .int .i64 n_1692]⟩ w R := by
  refine enter Tryd.func46 rfl Tryd.ntmps46 rfl hS fun a w hS => ?_
  have hM := hm; clear hm
  rw [mortiseref05_Reader_Bits.m] at hM
  refine wp_seq ?_
  refine wp_region_list ?_
  refine st1 hS (asg rfl) rfl fun a w hS => ?_
  refine st1 hS (asg rfl) rfl fun a w hS => ?_
  refine wpList_nil ?_
  refine then_n ?_
  refine wp_seq ?_
  refine wp_seq ?_
  refine wp_region_list ?_
  refine st1 hS (mv rfl) rfl fun a w hS => ?_
  refine st1 hS (bin rfl rfl rfl) rfl fun a w hS => ?_
  refine st1 hS (mv rfl) rfl fun a w hS => ?_
  refine g_op 2 false 12 (b := (decide (n_1692 < (0 : Int)))) (r := (decide (n_1692 > (32 : Int)))) hS rfl rfl rfl rfl rfl rfl rfl (fun hb a w hS K hK => ?_) rfl fun a w hS => ?_
  · refine st1g hS rfl rfl rfl hb (mv rfl) rfl fun a w hS => ?_
    refine st1g hS rfl rfl rfl hb (bin rfl rfl rfl) rfl fun a w hS => ?_
    exact wpList_nil (hK _ _ (hS.up 2 rfl rfl))
  refine wpList_nil ?_
  refine then_n ?_
  refine s_cond hS rfl hM (fun hb1693 hM => ?_) (fun hb1693 hM => ?_)
  · refine wp_seq ?_
    refine wp_region_list ?_
    refine st1 hS (asg rfl) rfl fun a w hS => ?_
    refine st1 hS (asg rfl) rfl fun a w hS => ?_
    refine wpList_nil ?_
    refine then_n ?_
    refine wp_ret ?_
    refine then_ret ?_
    exact s_ret (rs := [4, 5]) hS rfl rfl (hret (0 : Int) (1 : Int) r1688.At_ f1690 w hM hB1691 (hS.st.pick [0] (by kernel_rfl)))
  · refine wp_skip ?_
    refine then_n ?_
    refine wp_seq ?_
    refine wp_seq ?_
    refine draw_begin (vals := [some (.int .i64 n_1692), some (ptr b1689 0), some (ptr b1689 0), some (ptr b1689 0), some (str r1688.S_), some (.int .i64 (r1688.S_.length : Int)), some (.int .i64 (w64 ((8 : Int) * (r1688.S_.length : Int)))), some (ptr b1689 0), some (ptr b1689 0), some (ptr b1689 1), some (.int .i64 r1688.At_), some (.int .i64 (w64 ((w64 ((8 : Int) * (r1688.S_.length : Int))) - r1688.At_))), some (.bool (decide (n_1692 > (w64 ((w64 ((8 : Int) * (r1688.S_.length : Int))) - r1688.At_)))))]) hS mixed rfl ?_
    intro l w ho hcl hA hst
    refine phaseE (vals := [some (.int .i64 n_1692), some (ptr b1689 0), some (ptr b1689 0), some (ptr b1689 0), some (str r1688.S_), some (.int .i64 (r1688.S_.length : Int)), some (.int .i64 (w64 ((8 : Int) * (r1688.S_.length : Int)))), some (ptr b1689 0), some (ptr b1689 0), some (ptr b1689 1), some (.int .i64 r1688.At_), some (.int .i64 (w64 ((w64 ((8 : Int) * (r1688.S_.length : Int))) - r1688.At_))), some (.bool (decide (n_1692 > (w64 ((w64 ((8 : Int) * (r1688.S_.length : Int))) - r1688.At_)))))]) [] [0, 1, 2, 3, 4, 5, 6, 7, 8, 9, 10, 11, 12] rfl rfl rfl (by exact ⟨nR rfl rfl rfl rfl rfl (by exact ovE (mv rfl) rfl), nR rfl rfl rfl rfl rfl (by exact ovE (mv rfl) rfl), nR rfl rfl rfl rfl rfl (by exact ovE (nck rfl) rfl), nR rfl rfl rfl rfl rfl (by exact ovE (fad rfl Tryd.runUnderlying57 rfl Tryd.sizeOf9 rfl) rfl), nR rfl rfl rfl rfl rfl (by exact ovE (ldb 0 rfl hB1691 rfl rfl Tryd.isAgg9) rfl), nR rfl rfl rfl rfl rfl (by exact ovE (lenS rfl Tryd.runUnderlying9) rfl), nR rfl rfl rfl rfl rfl (by exact ovE (bin rfl rfl rfl) rfl), nR rfl rfl rfl rfl rfl (by exact ovE (mv rfl) rfl), nR rfl rfl rfl rfl rfl (by exact ovE (nck rfl) rfl), nR rfl rfl rfl rfl rfl (by exact ovE (fad rfl Tryd.runUnderlying57 rfl Tryd.sizeOf3 rfl) rfl), nR rfl rfl rfl rfl rfl (by exact ovE (ldb 0 rfl hB1691 rfl rfl Tryd.isAgg3) rfl), nR rfl rfl rfl rfl rfl (by exact ovE (bin rfl rfl rfl) rfl), nR rfl rfl rfl rfl rfl (by exact ovE (bin rfl rfl rfl) rfl), trivial⟩) (fun a w hS => ?_) ho hcl (fun m hm => (List.not_mem_nil hm).elim) hA hst
    replace hS := hS.env2 (e' := [(0, ptr b1689 0), (1, .int .i64 n_1692), (28, .bool (decide (n_1692 > (w64 ((w64 ((8 : Int) * (r1688.S_.length : Int))) - r1688.At_)))))]) ⟨rfl, rfl, rfl, trivial⟩
    refine then_n ?_
    refine s_cond hS rfl hM (fun hb1694 hM => ?_) (fun hb1694 hM => ?_)
    · refine wp_seq ?_
      refine wp_region_list ?_
      refine st1 hS (asg rfl) rfl fun a w hS => ?_
      refine st1 hS (asg rfl) rfl fun a w hS => ?_
      refine wpList_nil ?_
      refine then_n ?_
      refine wp_ret ?_
      refine then_ret ?_
      exact s_ret (rs := [4, 5]) hS rfl rfl (hret (0 : Int) (2 : Int) r1688.At_ f1690 w hM hB1691 (hS.st.pick [0] (by kernel_rfl)))
    · refine wp_skip ?_
      refine then_n ?_
      refine wp_seq ?_
      refine wp_region_list ?_
      refine st1 hS (asg rfl) rfl fun a w hS => ?_
      refine wpList_nil ?_
      refine then_n ?_
      refine seq_joinJ (fun a w => ∃ (v1707 : Int), Ss 69 [] [(0, ptr b1689 0), (1, .int .i64 n_1692), (6, .int .u32 v1707)] H [f1690] F a w ∧ (mortiseref05_Reader_Bits.j2 K r1688 n_1692 v1707).wp kr kp) (fun J1708 hJ1708 => ?_) ?_
      · refine wp_seq ?_
        refine wp_region_list ?_
        refine st1 hS (asg rfl) rfl fun a w hS => ?_
        refine wpList_nil ?_
        refine then_n ?_
        refine wp_block ?_
        refine s_loopJ (fun k1697 a w => ∃ (v1695 : Int) (i1696 : Int), Ss 69 [] [(0, ptr b1689 0), (1, .int .i64 n_1692), (6, .int .u32 v1695), (7, .int .i64 i1696)] H [f1690] F a w ∧ (mortiseref05_Reader_Bits.l1 K r1688 n_1692 k1697 v1695 i1696).wp kr kp) K ?_ ?_ ?_
        · exact ⟨(0 : Int), (0 : Int), hS.to [0] (by kernel_rfl) ⟨rfl, rfl, rfl, rfl, trivial⟩, hM⟩
        · intro a w hI; obtain ⟨_, _, _, hM⟩ := hI; exact hM
        · intro k1697 a w hI J1706 hJ1706
          obtain ⟨v1695, i1696, hS, hM⟩ := hI
          rw [mortiseref05_Reader_Bits.l1] at hM
          refine wp_seq ?_
          refine wp_seq ?_
          refine wp_region_list ?_
          refine st1 hS (mv rfl) rfl fun a w hS => ?_
          refine st1 hS (mv rfl) rfl fun a w hS => ?_
          refine st1 hS (bin rfl rfl rfl) rfl fun a w hS => ?_
          refine wpList_nil ?_
          refine then_n ?_
          refine s_cond hS rfl hM (fun hb1698 hM => ?_) (fun hb1698 hM => ?_)
          · refine wp_skip ?_
            refine then_n ?_
            refine wp_seq ?_
            refine wp_block ?_
            refine wp_seq ?_
            refine wp_region_list ?_
            refine st1 hS (mv rfl) rfl fun a w hS => ?_
            refine st1 hS (nck rfl) rfl fun a w hS => ?_
            refine st1 hS (fad rfl Tryd.runUnderlying57 rfl Tryd.sizeOf3 rfl) rfl fun a w hS => ?_
            refine st1 hS (ldb 0 rfl hB1691 rfl rfl Tryd.isAgg3) rfl fun a w hS => ?_
            refine st1 hS (mv rfl) rfl fun a w hS => ?_
            refine st1 hS (bin rfl rfl rfl) rfl fun a w hS => ?_
            refine st1x (v := Value.int .i64) hS (asg rfl) rfl fun k_1699 a w hz hS => ?_
            have hM := lt_to hz hM; clear hz
            refine wpList_nil ?_
            refine then_n ?_
            refine wp_seq ?_
            refine wp_region_list ?_
            refine st1 hS (mv rfl) rfl fun a w hS => ?_
            refine st1 hS (nck rfl) rfl fun a w hS => ?_
            refine st1 hS (fad rfl Tryd.runUnderlying57 rfl Tryd.sizeOf9 rfl) rfl fun a w hS => ?_
            refine st1 hS (ldb 0 rfl hB1691 rfl rfl Tryd.isAgg9) rfl fun a w hS => ?_
            refine st1 hS (mv rfl) rfl fun a w hS => ?_
            refine st1 hS (quo rfl rfl rfl) rfl fun a w hS => ?_
            obtain ⟨hk1700, hM⟩ := wp_chk hM
            refine st1 hS (ixs rfl rfl Tryd.runUnderlying9 hk1700) rfl fun a w hS => ?_
            refine st1 hS (cvi rfl Tryd.runUnderlying5 Tryd.runUnderlying37) rfl fun a w hS => ?_
            refine st1 hS (mv rfl) rfl fun a w hS => ?_
            refine st1 hS (rem rfl rfl rfl) rfl fun a w hS => ?_
            refine st1 hS (cvi rfl Tryd.runUnderlying3 Tryd.runUnderlying28) rfl fun a w hS => ?_
            obtain ⟨hk1701, hM⟩ := wp_chk hM
            refine st1 hS (shr rfl rfl hk1701) rfl fun a w hS => ?_
            refine st1 hS (rem rfl rfl rfl) rfl fun a w hS => ?_
            refine st1x (v := Value.int .u32) hS (asg rfl) rfl fun b_1702 a w hz hS => ?_
            have hM := lt_to hz hM; clear hz
            refine wpList_nil ?_
            refine then_n ?_
            refine wp_region_list ?_
            refine st1 hS (mv rfl) rfl fun a w hS => ?_
            refine st1 hS (mv rfl) rfl fun a w hS => ?_
            refine st1 hS (mv rfl) rfl fun a w hS => ?_
            refine st1 hS (cvi rfl Tryd.runUnderlying3 Tryd.runUnderlying28) rfl fun a w hS => ?_
            obtain ⟨hk1703, hM⟩ := wp_chk hM
            refine st1 hS (shl rfl rfl hk1703) rfl fun a w hS => ?_
            refine st1 hS (bin rfl rfl rfl) rfl fun a w hS => ?_
            refine st1x (v := Value.int .u32) hS (asg rfl) rfl fun v1704 a w hz hS => ?_
            have hM := lt_to hz hM; clear hz
            refine wpList_nil ?_
            refine blk_n (then_n ?_)
            refine wp_region_list ?_
            refine st1 hS (mv rfl) rfl fun a w hS => ?_
            refine st1 hS (bin rfl rfl rfl) rfl fun a w hS => ?_
            refine st1x (v := Value.int .i64) hS (asg rfl) rfl fun i1705 a w hz hS => ?_
            have hM := lt_to hz hM; clear hz
            refine wpList_nil ?_
            refine then_n ?_
            exact hJ1706 _ _ ⟨v1704, i1705, hS.to [0] (by kernel_rfl) ⟨rfl, rfl, rfl, rfl, trivial⟩, hM⟩
          · refine wp_exit ?_
            refine then_ex (then_ex (blk_same (then_n ?_)))
            exact hJ1708 _ _ ⟨v1695, hS.to [0] (by kernel_rfl) ⟨rfl, rfl, rfl, trivial⟩, hM⟩
      · intro a w hI
        obtain ⟨v1707, hS, hM⟩ := hI
        rw [mortiseref05_Reader_Bits.j2] at hM
        refine wp_seq ?_
        refine wp_region_list ?_
        refine st1 hS (mv rfl) rfl fun a w hS => ?_
        refine st1 hS (mv rfl) rfl fun a w hS => ?_
        refine st1 hS (nck rfl) rfl fun a w hS => ?_
        refine st1 hS (fad rfl Tryd.runUnderlying57 rfl Tryd.sizeOf3 rfl) rfl fun a w hS => ?_
        refine st1 hS (ldb 0 rfl hB1691 rfl rfl Tryd.isAgg3) rfl fun a w hS => ?_
        refine st1 hS (mv rfl) rfl fun a w hS => ?_
        refine st1 hS (bin rfl rfl rfl) rfl fun a w hS => ?_
        refine st1 hS (nck rfl) rfl fun a w hS => ?_
        refine st1 hS (fad rfl Tryd.runUnderlying57 rfl Tryd.sizeOf3 rfl) rfl fun a w hS => ?_
        refine sto 0 ([str r1688.S_, .int .i64 (w64 (r1688.At_ + n_1692))]) hS rfl rfl hB1691 rfl rfl rfl rfl Tryd.sizeOf3 fun w f1709 hB1710 hS => ?_
        refine wpList_nil ?_
        refine then_n ?_
        refine wp_seq ?_
        refine wp_region_list ?_
        refine st1 hS (mv rfl) rfl fun a w hS => ?_
        refine st1 hS (asg rfl) rfl fun a w hS => ?_
        refine st1 hS (asg rfl) rfl fun a w hS => ?_
        refine wpList_nil ?_
        refine then_n ?_
        refine wp_ret ?_
        exact s_ret (rs := [4, 5]) hS rfl rfl (hret v1707 (0 : Int) (w64 (r1688.At_ + n_1692)) f1709 w hM hB1710 (hS.st.pick [0] (by kernel_rfl)))

theorem mortiseref07_state_bits_c {H : Imm} {F : List Frag} {w : World} {R : Ending → World → Prop} {kr : (Int × Int × Int) → Prop} {kp : Value → Prop} (hG : Gl H) (K : Nat) (s1675 : T_mortiseref07_state) (n_1686 : Int) (from_1687 : Int) (b1676 : Nat) (f1677 : Frag) (b1679 : Nat) (f1680 : Frag) (A1682 : Option Addr) (c1683 : Nat) (f1684 : Frag) (hB1678 : Blk f1677 b1676 ([ptr b1679 0, .slice A1682 s1675.out_.length c1683, .int .i64 s1675.limit_]) 59) (hB1681 : Blk f1680 b1679 ([str s1675.r_.S_, .int .i64 s1675.r_.At_]) 57) (hV1685 : Vec 5 (ci .u8) 1 A1682 s1675.out_ c1683 f1684)
    (hS : St w H [f1677, f1680, f1684] F) (hm : (mortiseref07_state_bits.m K s1675 n_1686 from_1687).wp kr kp)
    (hret : ∀ (x1722 : Int) (x1723 : Int) (at_1724 : Int) (f1725 : Frag) (w : World), kr (x1722, x1723, at_1724) → (Blk f1725 b1679 ([str s1675.r_.S_, .int .i64 at_1724]) 57) → St w H [f1677, f1725, f1684] F → R (.returned (.tuple ⟨[.int .i64 x1722, .int .i64 x1723]⟩)) w) :
    Calls Tryd.prog 33 ⟨[ptr b1676 0, .int .i64 n_1686, .int .i64 from_1687]⟩ w R := by
  refine enter Tryd.func33 rfl Tryd.ntmps33 rfl hS fun a w hS => ?_
  have hM := hm; clear hm
  rw [mortiseref07_state_bits.m] at hM
  refine wp_seq ?_
  refine wp_region_list ?_
  refine st1 hS (asg rfl) rfl fun a w hS => ?_
  refine st1 hS (asg rfl) rfl fun a w hS => ?_
  refine wpList_nil ?_
  refine then_n ?_
  refine wp_seq ?_
  refine wp_region_list ?_
  refine st1 hS (mv rfl) rfl fun a w hS => ?_
  refine st1 hS (nck rfl) rfl fun a w hS => ?_
  refine st1 hS (fad rfl Tryd.runUnderlying59 rfl Tryd.sizeOf55 rfl) rfl fun a w hS => ?_
  refine st1 hS (ldb 0 rfl hB1678 rfl rfl Tryd.isAgg55) rfl fun a w hS => ?_
  refine st1 hS (mv rfl) rfl fun a w hS => ?_
  refine s_call hS rfl Tryd.call46 (mortiseref05_Reader_Bits_c hG K s1675.r_ n_1686 b1679 f1680 hB1681 (hS.st.part 1 [1, 0, 2] (by kernel_rfl)) (wp_bind hM) (fun x1716 x1717 at_1718 f1719 w hM h1720 hst => s_back hS.ev hst.appF rfl fun hS => ?_))
  replace hS : Ss _ _ _ H [f1719, f1677, f1684] F _ _ := hS
  refine st1 hS (mv rfl) rfl fun a w hS => ?_
  refine st1 hS (ex rfl rfl) rfl fun a w hS => ?_
  refine st1 hS (ex rfl rfl) rfl fun a w hS => ?_
  refine st1 hS (asg rfl) rfl fun a w hS => ?_
  refine st1 hS (asg rfl) rfl fun a w hS => ?_
  refine wpList_nil ?_
  refine then_n ?_
  refine wp_seq ?_
  refine wp_region_list ?_
  refine st1 hS (mv rfl) rfl fun a w hS => ?_
  refine st1 hS (mv rfl) rfl fun a w hS => ?_
  refine st1 hS (cvi rfl Tryd.runUnderlying37 Tryd.runUnderlying3) rfl fun a w hS => ?_
  refine st1 hS (bin rfl rfl rfl) rfl fun a w hS => ?_
  refine st1 hS (mv rfl) rfl fun a w hS => ?_
  refine st1x (v := Value.int .i64) hS (asg rfl) rfl fun v1721 a w hz hS => ?_
  have hM := lt_to hz hM; clear hz
  refine st1 hS (asg rfl) rfl fun a w hS => ?_
  refine wpList_nil ?_
  refine then_n ?_
  refine wp_ret ?_
  exact s_ret (rs := [6, 7]) hS rfl rfl (hret v1721 x1717 at_1718 f1719 w hM h1720 (hS.st.pick [1, 0, 2] (by kernel_rfl)))

theorem mortiseref05_Reader_Align_c {H : Imm} {F : List Frag} {w : World} {R : Ending → World → Prop} {kr : Int → Prop} {kp : Value → Prop} (hG : Gl H) (K : Nat) (r1758 : T_mortiseref05_Reader) (b1759 : Nat) (f1760 : Frag) (hB1761 : Blk f1760 b1759 ([str r1758.S_, .int .i64 r1758.At_]) 57)
    (hS : St w H [f1760] F) (hm : (mortiseref05_Reader_Align.m K r1758).wp kr kp)
    (hret : ∀ (at_1777 : Int) (f1778 : Frag) (w : World), kr at_1777 → (Blk f1778 b1759 ([str r1758.S_, .int .i64 at_1777]) 57) → St w H [f1778] F → R (.returned (.tuple ⟨[]⟩)) w) :
    Calls Tryd.prog 56 ⟨[ptr b1759 0]⟩ w R := by
  refine enter Tryd.func56 rfl Tryd.ntmps56 rfl hS fun a w hS => ?_
  have hM := hm; clear hm
  rw [mortiseref05_Reader_Align.m] at hM
  refine wp_block ?_
  refine s_loopJ (fun k1772 a w => ∃ (at_1769 : Int) (f1770 : Frag), Ss 15 [] [(0, ptr b1759 0)] H [f1770] F a w ∧ (Blk f1770 b1759 ([str r1758.S_, .int .i64 at_1769]) 57) ∧ (mortiseref05_Reader_Align.l1 K k1772 at_1769).wp kr kp) K ?_ ?_ ?_
  · exact ⟨r1758.At_, f1760, hS.to [0] (by kernel_rfl) ⟨rfl, trivial⟩, hB1761, hM⟩
  · intro a w hI; obtain ⟨_, _, _, _, hM⟩ := hI; exact hM
  · intro k1772 a w hI J1776 hJ1776
    obtain ⟨at_1769, f1770, hS, hB1771, hM⟩ := hI
    rw [mortiseref05_Reader_Align.l1] at hM
    refine wp_seq ?_
    refine wp_seq ?_
    refine wp_region_list ?_
    refine st1 hS (mv rfl) rfl fun a w hS => ?_
    refine st1 hS (nck rfl) rfl fun a w hS => ?_
    refine st1 hS (fad rfl Tryd.runUnderlying57 rfl Tryd.sizeOf3 rfl) rfl fun a w hS => ?_
    refine st1 hS (ldb 0 rfl hB1771 rfl rfl Tryd.isAgg3) rfl fun a w hS => ?_
    refine st1 hS (rem rfl rfl rfl) rfl fun a w hS => ?_
    refine st1 hS (bin rfl rfl rfl) rfl fun a w hS => ?_
    refine wpList_nil ?_
    refine then_n ?_
    refine s_cond hS rfl hM (fun hb1773 hM => ?_) (fun hb1773 hM => ?_)
    · refine wp_skip ?_
      refine then_n ?_
      refine wp_block ?_
      refine wp_region_list ?_
      refine st1 hS (mv rfl) rfl fun a w hS => ?_
      refine st1 hS (nck rfl) rfl fun a w hS => ?_
      refine st1 hS (fad rfl Tryd.runUnderlying57 rfl Tryd.sizeOf3 rfl) rfl fun a w hS => ?_
      refine st1 hS (ldb 0 rfl hB1771 rfl rfl Tryd.isAgg3) rfl fun a w hS => ?_
      refine st1 hS (bin rfl rfl rfl) rfl fun a w hS => ?_
      refine st1 hS (nck rfl) rfl fun a w hS => ?_
      refine st1 hS (fad rfl Tryd.runUnderlying57 rfl Tryd.sizeOf3 rfl) rfl fun a w hS => ?_
      refine sto 0 ([str r1758.S_, .int .i64 (w64 (at_1769 + (1 : Int)))]) hS rfl rfl hB1771 rfl rfl rfl rfl Tryd.sizeOf3 fun w f1774 hB1775 hS => ?_
      refine wpList_nil ?_
      refine blk_n (then_n ?_)
      exact hJ1776 _ _ ⟨(w64 (at_1769 + (1 : Int))), f1774, hS.to [0] (by kernel_rfl) ⟨rfl, trivial⟩, hB1775, hM⟩
    · refine wp_exit ?_
      refine then_ex (then_ex (blk_same ?_))
      exact s_end (rs := []) hS rfl rfl (hret at_1769 f1770 w hM hB1771 (hS.st.pick [0] (by kernel_rfl)))

theorem mortiseref05_Reader_Bytes_c {H : Imm} {F : List Frag} {w : World} {R : Ending → World → Prop} {kr : ((List UInt8) × Int × Int) → Prop} {kp : Value → Prop} (hG : Gl H) (K : Nat) (r1752 : T_mortiseref05_Reader) (n_1756 : Int) (b1753 : Nat) (f1754 : Frag) (hB1755 : Blk f1754 b1753 ([str r1752.S_, .int .i64 r1752.At_]) 57)
    (hS : St w H [f1754] F) (hm : (mortiseref05_Reader_Bytes.m K r1752 n_1756).wp kr kp)
    (hret : ∀ (x1789 : List UInt8) (x1790 : Int) (at_1791 : Int) (f1792 : Frag) (w : World), kr (x1789, x1790, at_1791) → (Blk f1792 b1753 ([str r1752.S_, .int .i64 at_1791]) 57) → St w H [f1792] F → R (.returned (.tuple ⟨[str x1789, .int .i64 x1790]⟩)) w) :
    Calls Tryd.prog 47 ⟨[ptr b1753 0, .int .i64 n_1756]⟩ w R := by
  refine enter Tryd.func47 rfl Tryd.ntmps47 rfl hS fun a w hS => ?_
  have hM := hm; clear hm
  rw [mortiseref05_Reader_Bytes.m] at hM
  refine wp_seq ?_
  refine wp_region_list ?_
  refine st1 hS (asg rfl) rfl fun a w hS => ?_
  refine st1 hS (asg rfl) rfl fun a w hS => ?_
  refine wpList_nil ?_
  refine then_n ?_
  refine wp_seq ?_
  refine wp_seq ?_
  refine wp_region_list ?_
  refine st1 hS (mv rfl) rfl fun a w hS => ?_
  refine st1 hS (bin rfl rfl rfl) rfl fun a w hS => ?_
  refine wpList_nil ?_
  refine then_n ?_
  refine s_cond hS rfl hM (fun hb1757 hM => ?_) (fun hb1757 hM => ?_)
  · refine wp_seq ?_
    refine wp_region_list ?_
    refine st1 hS (asg rfl) rfl fun a w hS => ?_
    refine st1 hS (asg rfl) rfl fun a w hS => ?_
    refine wpList_nil ?_
    refine then_n ?_
    refine wp_ret ?_
    refine then_ret ?_
    exact s_ret (rs := [4, 5]) hS rfl rfl (hret ([] : List UInt8) (1 : Int) r1752.At_ f1754 w hM hB1755 (hS.st.pick [0] (by kernel_rfl)))
  · refine wp_skip ?_
    refine then_n ?_
    refine wp_seq ?_
    refine wp_region_list ?_
    refine st1 hS (mv rfl) rfl fun a w hS => ?_
    refine s_call hS rfl Tryd.call56 (mortiseref05_Reader_Align_c hG K r1752 b1753 f1754 hB1755 (hS.st.part 1 [0] (by kernel_rfl)) (wp_bind hM) (fun at_1780 f1781 w hM h1782 hst => s_back hS.ev hst.appF rfl fun hS => ?_))
    replace hS : Ss _ _ _ H [f1781] F _ _ := hS
    refine wpList_nil ?_
    refine then_n ?_
    refine wp_seq ?_
    refine wp_region_list ?_
    refine st1 hS (mv rfl) rfl fun a w hS => ?_
    refine st1 hS (nck rfl) rfl fun a w hS => ?_
    refine st1 hS (fad rfl Tryd.runUnderlying57 rfl Tryd.sizeOf3 rfl) rfl fun a w hS => ?_
    refine st1 hS (ldb 0 rfl h1782 rfl rfl Tryd.isAgg3) rfl fun a w hS => ?_
    refine st1 hS (quo rfl rfl rfl) rfl fun a w hS => ?_
    refine st1x (v := Value.int .i64) hS (asg rfl) rfl fun at_1783 a w hz hS => ?_
    have hM := lt_to hz hM; clear hz
    refine wpList_nil ?_
    refine then_n ?_
    refine wp_seq ?_
    refine wp_seq ?_
    refine wp_region_list ?_
    refine st1 hS (mv rfl) rfl fun a w hS => ?_
    refine st1 hS (mv rfl) rfl fun a w hS => ?_
    refine st1 hS (nck rfl) rfl fun a w hS => ?_
    refine st1 hS (fad rfl Tryd.runUnderlying57 rfl Tryd.sizeOf9 rfl) rfl fun a w hS => ?_
    refine st1 hS (ldb 0 rfl h1782 rfl rfl Tryd.isAgg9) rfl fun a w hS => ?_
    refine st1 hS (lenS rfl Tryd.runUnderlying9) rfl fun a w hS => ?_
    refine st1 hS (mv rfl) rfl fun a w hS => ?_
    refine st1 hS (bin rfl rfl rfl) rfl fun a w hS => ?_
    refine st1 hS (bin rfl rfl rfl) rfl fun a w hS => ?_
    refine wpList_nil ?_
    refine then_n ?_
    refine s_cond hS rfl hM (fun hb1784 hM => ?_) (fun hb1784 hM => ?_)
    · refine wp_seq ?_
      refine wp_region_list ?_
      refine st1 hS (asg rfl) rfl fun a w hS => ?_
      refine st1 hS (asg rfl) rfl fun a w hS => ?_
      refine wpList_nil ?_
      refine then_n ?_
      refine wp_ret ?_
      refine then_ret ?_
      exact s_ret (rs := [4, 5]) hS rfl rfl (hret ([] : List UInt8) (2 : Int) at_1780 f1781 w hM h1782 (hS.st.pick [0] (by kernel_rfl)))
    · refine wp_skip ?_
      refine then_n ?_
      refine wp_seq ?_
      refine wp_region_list ?_
      refine st1 hS (mv rfl) rfl fun a w hS => ?_
      refine st1 hS (mv rfl) rfl fun a w hS => ?_
      refine st1 hS (nck rfl) rfl fun a w hS => ?_
      refine st1 hS (fad rfl Tryd.runUnderlying57 rfl Tryd.sizeOf3 rfl) rfl fun a w hS => ?_
      refine st1 hS (ldb 0 rfl h1782 rfl rfl Tryd.isAgg3) rfl fun a w hS => ?_
      refine st1 hS (mv rfl) rfl fun a w hS => ?_
      refine st1 hS (bin rfl rfl rfl) rfl fun a w hS => ?_
      refine st1 hS (bin rfl rfl rfl) rfl fun a w hS => ?_
      refine st1 hS (nck rfl) rfl fun a w hS => ?_
      refine st1 hS (fad rfl Tryd.runUnderlying57 rfl Tryd.sizeOf3 rfl) rfl fun a w hS => ?_
      refine sto 0 ([str r1752.S_, .int .i64 (w64 (at_1780 + (w64 ((8 : Int) * n_1756))))]) hS rfl rfl h1782 rfl rfl rfl rfl Tryd.sizeOf3 fun w f1785 hB1786 hS => ?_
      refine wpList_nil ?_
      refine then_n ?_
      refine wp_seq ?_
      refine wp_region_list ?_
      refine st1 hS (mv rfl) rfl fun a w hS => ?_
      refine st1 hS (nck rfl) rfl fun a w hS => ?_
      refine st1 hS (fad rfl Tryd.runUnderlying57 rfl Tryd.sizeOf9 rfl) rfl fun a w hS => ?_
      refine st1 hS (ldb 0 rfl hB1786 rfl rfl Tryd.isAgg9) rfl fun a w hS => ?_
      refine st1 hS (mv rfl) rfl fun a w hS => ?_
      refine st1 hS (mv rfl) rfl fun a w hS => ?_
      refine st1 hS (mv rfl) rfl fun a w hS => ?_
      refine st1 hS (bin rfl rfl rfl) rfl fun a w hS => ?_
      obtain ⟨hk1787, hM⟩ := wp_chk hM
      refine st1 hS (slS rfl Tryd.runUnderlying9 (loS rfl) (hiS rfl) hk1787) rfl fun a w hS => ?_
      refine st1x (v := str) hS (asg rfl) rfl fun v1788 a w hz hS => ?_
      have hM := lt_to hz hM; clear hz
      refine st1 hS (asg rfl) rfl fun a w hS => ?_
      refine wpList_nil ?_
      refine then_n ?_
      refine wp_ret ?_
      exact s_ret (rs := [4, 5]) hS rfl rfl (hret v1788 (0 : Int) (w64 (at_1780 + (w64 ((8 : Int) * n_1756)))) f1785 w hM hB1786 (hS.st.pick [0] (by kernel_rfl)))

theorem mortiseref07_state_stored_c {H : Imm} {F : List Frag} {w : World} {R : Ending → World → Prop} {kr : (Int × Int × (List Int)) → Prop} {kp : Value → Prop} (hG : Gl H) (K : Nat) (s1741 : T_mortiseref07_state) (b1742 : Nat) (f1743 : Frag) (b1745 : Nat) (f1746 : Frag) (A1748 : Option Addr) (c1749 : Nat) (f1750 : Frag) (hB1744 : Blk f1743 b1742 ([ptr b1745 0, .slice A1748 s1741.out_.length c1749, .int .i64 s1741.limit_]) 59) (hB1747 : Blk f1746 b1745 ([str s1741.r_.S_, .int .i64 s1741.r_.At_]) 57) (hV1751 : Vec 5 (ci .u8) 1 A1748 s1741.out_ c1749 f1750)
    (hS : St w H [f1743, f1746, f1750] F) (hm : (mortiseref07_state_stored.m K s1741).wp kr kp)
    (hret : ∀ (x1826 : Int) (at_1827 : Int) (f1828 : Frag) (A1830 : Option Addr) (c1831 : Nat) (out1832 : (List Int)) (f1833 : Frag) (f1835 : Frag) (w : World), kr (x1826, at_1827, out1832) → (Blk f1828 b1745 ([str s1741.r_.S_, .int .i64 at_1827]) 57) → (Vec 5 (ci .u8) 1 A1830 out1832 c1831 f1833) → (Blk f1835 b1742 ([ptr b1745 0, .slice A1830 out1832.length c1831, .int .i64 s1741.limit_]) 59) → St w H [f1835, f1828, f1833] F → R (.returned (.int .i64 x1826)) w) :
    Calls Tryd.prog 34 ⟨[ptr b1742 0]⟩ w R := by
  refine enter Tryd.func34 rfl Tryd.ntmps34 rfl hS fun a w hS => ?_
  have hM := hm; clear hm
  rw [mortiseref07_state_stored.m] at hM
  refine wp_seq ?_
  refine wp_region_list ?_
  refine st1 hS (asg rfl) rfl fun a w hS => ?_
  refine wpList_nil ?_
  refine then_n ?_
  refine wp_seq ?_
  refine wp_region_list ?_
  refine st1 hS (mv rfl) rfl fun a w hS => ?_
  refine st1 hS (nck rfl) rfl fun a w hS => ?_
  refine st1 hS (fad rfl Tryd.runUnderlying59 rfl Tryd.sizeOf55 rfl) rfl fun a w hS => ?_
  refine st1 hS (ldb 0 rfl hB1744 rfl rfl Tryd.isAgg55) rfl fun a w hS => ?_
  refine s_call hS rfl Tryd.call47 (mortiseref05_Reader_Bytes_c hG K s1741.r_ (4 : Int) b1745 f1746 hB1747 (hS.st.part 1 [1, 0, 2] (by kernel_rfl)) (wp_bind hM) (fun x1794 x1795 at_1796 f1797 w hM h1798 hst => s_back hS.ev hst.appF rfl fun hS => ?_))
  replace hS : Ss _ _ _ H [f1797, f1743, f1750] F _ _ := hS
  refine st1 hS (mv rfl) rfl fun a w hS => ?_
  refine st1 hS (ex rfl rfl) rfl fun a w hS => ?_
  refine st1 hS (ex rfl rfl) rfl fun a w hS => ?_
  refine st1 hS (asg rfl) rfl fun a w hS => ?_
  refine st1 hS (asg rfl) rfl fun a w hS => ?_
  refine wpList_nil ?_
  refine then_n ?_
  refine wp_seq ?_
  refine wp_seq ?_
  refine wp_region_list ?_
  refine st1 hS (mv rfl) rfl fun a w hS => ?_
  refine st1 hS (bin rfl rfl rfl) rfl fun a w hS => ?_
  refine wpList_nil ?_
  refine then_n ?_
  refine s_cond hS rfl hM (fun hb1799 hM => ?_) (fun hb1799 hM => ?_)
  · refine wp_seq ?_
    refine wp_region_list ?_
    refine st1 hS (mv rfl) rfl fun a w hS => ?_
    refine st1 hS (asg rfl) rfl fun a w hS => ?_
    refine wpList_nil ?_
    refine then_n ?_
    refine wp_ret ?_
    refine then_ret ?_
    exact s_ret (rs := [2]) hS rfl rfl (hret x1795 at_1796 f1797 A1748 c1749 s1741.out_ f1750 f1743 w hM h1798 hV1751 hB1744 (hS.st.pick [1, 0, 2] (by kernel_rfl)))
  · refine wp_skip ?_
    refine then_n ?_
    refine wp_seq ?_
    obtain ⟨hk1801, hM⟩ := wp_chk hM
    obtain ⟨hk1803, hM⟩ := wp_chk hM
    obtain ⟨n_1804, hz1805⟩ : ∃ x, x = (w64 ((wr .i64 ((rd x1794 (0 : Int)).toNat : Int)) + (w64 ((256 : Int) * (wr .i64 ((rd x1794 (1 : Int)).toNat : Int)))))) := ⟨_, rfl⟩
    replace hM := lt_to hz1805 hM
    refine draw_begin (vals := [some (str x1794), some (.int .u8 ((rd x1794 (0 : Int)).toNat : Int)), some (.int .i64 (wr .i64 ((rd x1794 (0 : Int)).toNat : Int))), some (str x1794), some (.int .u8 ((rd x1794 (1 : Int)).toNat : Int)), some (.int .i64 (wr .i64 ((rd x1794 (1 : Int)).toNat : Int))), some (.int .i64 (w64 ((256 : Int) * (wr .i64 ((rd x1794 (1 : Int)).toNat : Int))))), some (.int .i64 (w64 ((wr .i64 ((rd x1794 (0 : Int)).toNat : Int)) + (w64 ((256 : Int) * (wr .i64 ((rd x1794 (1 : Int)).toNat : Int))))))), some (.int .i64 n_1804)]) hS mixed rfl ?_
    intro l w ho hcl hA hst
    refine phaseE (vals := [some (str x1794), some (.int .u8 ((rd x1794 (0 : Int)).toNat : Int)), some (.int .i64 (wr .i64 ((rd x1794 (0 : Int)).toNat : Int))), some (str x1794), some (.int .u8 ((rd x1794 (1 : Int)).toNat : Int)), some (.int .i64 (wr .i64 ((rd x1794 (1 : Int)).toNat : Int))), some (.int .i64 (w64 ((256 : Int) * (wr .i64 ((rd x1794 (1 : Int)).toNat : Int))))), some (.int .i64 (w64 ((wr .i64 ((rd x1794 (0 : Int)).toNat : Int)) + (w64 ((256 : Int) * (wr .i64 ((rd x1794 (1 : Int)).toNat : Int))))))), some (.int .i64 n_1804)]) [] [0, 1, 2, 3, 4, 5, 6, 7, 8] rfl rfl rfl (by exact ⟨nR rfl rfl rfl rfl rfl (by exact ovE (mv rfl) rfl), nR rfl rfl rfl rfl rfl (by exact ovE (ixs rfl rfl Tryd.runUnderlying9 hk1801) rfl), nR rfl rfl rfl rfl rfl (by exact ovE (cvi rfl Tryd.runUnderlying5 Tryd.runUnderlying3) rfl), nR rfl rfl rfl rfl rfl (by exact ovE (mv rfl) rfl), nR rfl rfl rfl rfl rfl (by exact ovE (ixs rfl rfl Tryd.runUnderlying9 hk1803) rfl), nR rfl rfl rfl rfl rfl (by exact ovE (cvi rfl Tryd.runUnderlying5 Tryd.runUnderlying3) rfl), nR rfl rfl rfl rfl rfl (by exact ovE (bin rfl rfl rfl) rfl), nR rfl rfl rfl rfl rfl (by exact ovE (bin rfl rfl rfl) rfl), nR rfl rfl rfl rfl rfl (by exact ovE (asg rfl) (congrArg (Value.int .i64) hz1805.symm)), trivial⟩) (fun a w hS => ?_) ho hcl (fun m hm => (List.not_mem_nil hm).elim) hA hst
    replace hS := hS.env2 (e' := [(0, ptr b1742 0), (3, str x1794), (5, .int .i64 n_1804)]) ⟨rfl, rfl, rfl, trivial⟩
    refine then_n ?_
    refine wp_seq ?_
    refine wp_seq ?_
    obtain ⟨hk1807, hM⟩ := wp_chk hM
    obtain ⟨hk1809, hM⟩ := wp_chk hM
    refine draw_begin (vals := [some (str x1794), some (.int .u8 ((rd x1794 (2 : Int)).toNat : Int)), some (.int .i64 (wr .i64 ((rd x1794 (2 : Int)).toNat : Int))), some (str x1794), some (.int .u8 ((rd x1794 (3 : Int)).toNat : Int)), some (.int .i64 (wr .i64 ((rd x1794 (3 : Int)).toNat : Int))), some (.int .i64 (w64 ((256 : Int) * (wr .i64 ((rd x1794 (3 : Int)).toNat : Int))))), some (.int .i64 (w64 ((wr .i64 ((rd x1794 (2 : Int)).toNat : Int)) + (w64 ((256 : Int) * (wr .i64 ((rd x1794 (3 : Int)).toNat : Int))))))), some (.int .i64 n_1804), some (.int .i64 (w64 ((65535 : Int) - n_1804))), some (.bool ((w64 ((wr .i64 ((rd x1794 (2 : Int)).toNat : Int)) + (w64 ((256 : Int) * (wr .i64 ((rd x1794 (3 : Int)).toNat : Int)))))) != (w64 ((65535 : Int) - n_1804))))]) hS mixed rfl ?_
    intro l w ho hcl hA hst
    refine phaseE (vals := [some (str x1794), some (.int .u8 ((rd x1794 (2 : Int)).toNat : Int)), some (.int .i64 (wr .i64 ((rd x1794 (2 : Int)).toNat : Int))), some (str x1794), some (.int .u8 ((rd x1794 (3 : Int)).toNat : Int)), some (.int .i64 (wr .i64 ((rd x1794 (3 : Int)).toNat : Int))), some (.int .i64 (w64 ((256 : Int) * (wr .i64 ((rd x1794 (3 : Int)).toNat : Int))))), some (.int .i64 (w64 ((wr .i64 ((rd x1794 (2 : Int)).toNat : Int)) + (w64 ((256 : Int) * (wr .i64 ((rd x1794 (3 : Int)).toNat : Int))))))), some (.int .i64 n_1804), some (.int .i64 (w64 ((65535 : Int) - n_1804))), some (.bool ((w64 ((wr .i64 ((rd x1794 (2 : Int)).toNat : Int)) + (w64 ((256 : Int) * (wr .i64 ((rd x1794 (3 : Int)).toNat : Int)))))) != (w64 ((65535 : Int) - n_1804))))]) [] [0, 1, 2, 3, 4, 5, 6, 7, 8, 9, 10] rfl rfl rfl (by exact ⟨nR rfl rfl rfl rfl rfl (by exact ovE (mv rfl) rfl), nR rfl rfl rfl rfl rfl (by exact ovE (ixs rfl rfl Tryd.runUnderlying9 hk1807) rfl), nR rfl rfl rfl rfl rfl (by exact ovE (cvi rfl Tryd.runUnderlying5 Tryd.runUnderlying3) rfl), nR rfl rfl rfl rfl rfl (by exact ovE (mv rfl) rfl), nR rfl rfl rfl rfl rfl (by exact ovE (ixs rfl rfl Tryd.runUnderlying9 hk1809) rfl), nR rfl rfl rfl rfl rfl (by exact ovE (cvi rfl Tryd.runUnderlying5 Tryd.runUnderlying3) rfl), nR rfl rfl rfl rfl rfl (by exact ovE (bin rfl rfl rfl) rfl), nR rfl rfl rfl rfl rfl (by exact ovE (bin rfl rfl rfl) rfl), nR rfl rfl rfl rfl rfl (by exact ovE (mv rfl) rfl), nR rfl rfl rfl rfl rfl (by exact ovE (bin rfl rfl rfl) rfl), nR rfl rfl rfl rfl rfl (by exact ovE (bin rfl rfl rfl) rfl), trivial⟩) (fun a w hS => ?_) ho hcl (fun m hm => (List.not_mem_nil hm).elim) hA hst
    replace hS := hS.env2 (e' := [(0, ptr b1742 0), (5, .int .i64 n_1804), (37, .bool ((w64 ((wr .i64 ((rd x1794 (2 : Int)).toNat : Int)) + (w64 ((256 : Int) * (wr .i64 ((rd x1794 (3 : Int)).toNat : Int)))))) != (w64 ((65535 : Int) - n_1804))))]) ⟨rfl, rfl, rfl, trivial⟩
    refine then_n ?_
    refine s_cond hS rfl hM (fun hb1810 hM => ?_) (fun hb1810 hM => ?_)
    · refine wp_seq ?_
      refine wp_region_list ?_
      refine st1 hS (asg rfl) rfl fun a w hS => ?_
      refine wpList_nil ?_
      refine then_n ?_
      refine wp_ret ?_
      refine then_ret ?_
      exact s_ret (rs := [2]) hS rfl rfl (hret (3 : Int) at_1796 f1797 A1748 c1749 s1741.out_ f1750 f1743 w hM h1798 hV1751 hB1744 (hS.st.pick [1, 0, 2] (by kernel_rfl)))
    · refine wp_skip ?_
      refine then_n ?_
      refine wp_seq ?_
      refine wp_region_list ?_
      refine st1 hS (mv rfl) rfl fun a w hS => ?_
      refine st1 hS (nck rfl) rfl fun a w hS => ?_
      refine st1 hS (fad rfl Tryd.runUnderlying59 rfl Tryd.sizeOf55 rfl) rfl fun a w hS => ?_
      refine st1 hS (ldb 1 rfl hB1744 rfl rfl Tryd.isAgg55) rfl fun a w hS => ?_
      refine st1 hS (mv rfl) rfl fun a w hS => ?_
      refine s_call hS rfl Tryd.call47 (mortiseref05_Reader_Bytes_c hG K (T_mortiseref05_Reader.mk s1741.r_.S_ at_1796) n_1804 b1745 f1797 h1798 (hS.st.part 1 [0, 1, 2] (by kernel_rfl)) (wp_bind hM) (fun x1811 x1812 at_1813 f1814 w hM h1815 hst => s_back hS.ev hst.appF rfl fun hS => ?_))
      replace hS : Ss _ _ _ H [f1814, f1743, f1750] F _ _ := hS
      refine st1 hS (mv rfl) rfl fun a w hS => ?_
      refine st1 hS (ex rfl rfl) rfl fun a w hS => ?_
      refine st1 hS (ex rfl rfl) rfl fun a w hS => ?_
      refine st1 hS (asg rfl) rfl fun a w hS => ?_
      refine st1 hS (asg rfl) rfl fun a w hS => ?_
      refine wpList_nil ?_
      refine then_n ?_
      refine wp_seq ?_
      refine wp_seq ?_
      refine wp_region_list ?_
      refine st1 hS (mv rfl) rfl fun a w hS => ?_
      refine st1 hS (bin rfl rfl rfl) rfl fun a w hS => ?_
      refine wpList_nil ?_
      refine then_n ?_
      refine s_cond hS rfl hM (fun hb1816 hM => ?_) (fun hb1816 hM => ?_)
      · refine wp_seq ?_
        refine wp_region_list ?_
        refine st1 hS (mv rfl) rfl fun a w hS => ?_
        refine st1 hS (asg rfl) rfl fun a w hS => ?_
        refine wpList_nil ?_
        refine then_n ?_
        refine wp_ret ?_
        refine then_ret ?_
        exact s_ret (rs := [2]) hS rfl rfl (hret x1812 at_1813 f1814 A1748 c1749 s1741.out_ f1750 f1743 w hM h1815 hV1751 hB1744 (hS.st.pick [1, 0, 2] (by kernel_rfl)))
      · refine wp_skip ?_
        refine then_n ?_
        refine wp_seq ?_
        refine wp_seq ?_
        refine draw_begin (vals := [some (.int .i64 n_1804), some (ptr b1742 0), some (ptr b1742 0), some (ptr b1742 2), some (.int .i64 s1741.limit_), some (ptr b1742 0), some (ptr b1742 0), some (ptr b1742 1), some (.slice A1748 s1741.out_.length c1749), some (.int .i64 (s1741.out_.length : Int)), some (.int .i64 (w64 (s1741.limit_ - (s1741.out_.length : Int)))), some (.bool (decide (n_1804 > (w64 (s1741.limit_ - (s1741.out_.length : Int))))))]) hS mixed rfl ?_
        intro l w ho hcl hA hst
        refine phaseE (vals := [some (.int .i64 n_1804), some (ptr b1742 0), some (ptr b1742 0), some (ptr b1742 2), some (.int .i64 s1741.limit_), some (ptr b1742 0), some (ptr b1742 0), some (ptr b1742 1), some (.slice A1748 s1741.out_.length c1749), some (.int .i64 (s1741.out_.length : Int)), some (.int .i64 (w64 (s1741.limit_ - (s1741.out_.length : Int)))), some (.bool (decide (n_1804 > (w64 (s1741.limit_ - (s1741.out_.length : Int))))))]) [] [0, 1, 2, 3, 4, 5, 6, 7, 8, 9, 10, 11] rfl rfl rfl (by exact ⟨nR rfl rfl rfl rfl rfl (by exact ovE (mv rfl) rfl), nR rfl rfl rfl rfl rfl (by exact ovE (mv rfl) rfl), nR rfl rfl rfl rfl rfl (by exact ovE (nck rfl) rfl), nR rfl rfl rfl rfl rfl (by exact ovE (fad rfl Tryd.runUnderlying59 rfl Tryd.sizeOf3 rfl) rfl), nR rfl rfl rfl rfl rfl (by exact ovE (ldb 1 rfl hB1744 rfl rfl Tryd.isAgg3) rfl), nR rfl rfl rfl rfl rfl (by exact ovE (mv rfl) rfl), nR rfl rfl rfl rfl rfl (by exact ovE (nck rfl) rfl), nR rfl rfl rfl rfl rfl (by exact ovE (fad rfl Tryd.runUnderlying59 rfl Tryd.sizeOf27 rfl) rfl), nR rfl rfl rfl rfl rfl (by exact ovE (ldb 1 rfl hB1744 rfl rfl Tryd.isAgg27) rfl), nR rfl rfl rfl rfl rfl (by exact ovE (lenV rfl Tryd.runUnderlying27) rfl), nR rfl rfl rfl rfl rfl (by exact ovE (bin rfl rfl rfl) rfl), nR rfl rfl rfl rfl rfl (by exact ovE (bin rfl rfl rfl) rfl), trivial⟩) (fun a w hS => ?_) ho hcl (fun m hm => (List.not_mem_nil hm).elim) hA hst
        replace hS := hS.env2 (e' := [(0, ptr b1742 0), (6, str x1811), (61, .bool (decide (n_1804 > (w64 (s1741.limit_ - (s1741.out_.length : Int))))))]) ⟨rfl, rfl, rfl, trivial⟩
        refine then_n ?_
        refine s_cond hS rfl hM (fun hb1817 hM => ?_) (fun hb1817 hM => ?_)
        · refine wp_seq ?_
          refine wp_region_list ?_
          refine st1 hS (asg rfl) rfl fun a w hS => ?_
          refine wpList_nil ?_
          refine then_n ?_
          refine wp_ret ?_
          refine then_ret ?_
          exact s_ret (rs := [2]) hS rfl rfl (hret (11 : Int) at_1813 f1814 A1748 c1749 s1741.out_ f1750 f1743 w hM h1815 hV1751 hB1744 (hS.st.pick [1, 0, 2] (by kernel_rfl)))
        · refine wp_skip ?_
          refine then_n ?_
          refine wp_seq ?_
          refine wp_region_list ?_
          refine st1 hS (mv rfl) rfl fun a w hS => ?_
          refine st1 hS (mv rfl) rfl fun a w hS => ?_
          refine st1 hS (nck rfl) rfl fun a w hS => ?_
          refine st1 hS (fad rfl Tryd.runUnderlying59 rfl Tryd.sizeOf27 rfl) rfl fun a w hS => ?_
          refine st1 hS (ldb 1 rfl hB1744 rfl rfl Tryd.isAgg27) rfl fun a w hS => ?_
          refine st1 hS (mv rfl) rfl fun a w hS => ?_
          obtain ⟨hk1818, hM⟩ := wp_chk hM
          refine apS 2 hS rfl rfl hV1751 rfl Tryd.runUnderlying27 Tryd.runUnderlying9 X.el5 rfl hk1818 rfl fun zs1823 w A1819 c1820 f1821 hz hV1822 hS => ?_
          have hM := lt_to hz hM; clear hz
          refine st1 hS (nck rfl) rfl fun a w hS => ?_
          refine st1 hS (fad rfl Tryd.runUnderlying59 rfl Tryd.sizeOf27 rfl) rfl fun a w hS => ?_
          refine sto 1 ([ptr b1745 0, .slice A1819 zs1823.length c1820, .int .i64 s1741.limit_]) hS rfl rfl hB1744 rfl rfl rfl rfl Tryd.sizeOf27 fun w f1824 hB1825 hS => ?_
          refine wpList_nil ?_
          refine then_n ?_
          refine wp_seq ?_
          refine wp_region_list ?_
          refine st1 hS (asg rfl) rfl fun a w hS => ?_
          refine wpList_nil ?_
          refine then_n ?_
          refine wp_ret ?_
          exact s_ret (rs := [2]) hS rfl rfl (hret (0 : Int) at_1813 f1814 A1819 c1820 zs1823 f1821 f1824 w hM h1815 hV1822 hB1825 (hS.st.pick [1, 0, 2] (by kernel_rfl)))

theorem mortiseref07_Fixed_c {H : Imm} {F : List Frag} {w : World} {R : Ending → World → Prop} {kr : ((List Int) × (List Int)) → Prop} {kp : Value → Prop} (hG : Gl H) (K : Nat)
    (hS : St w H [] F) (hm : (mortiseref07_Fixed.m K).wp kr kp)
    (hret : ∀ (A1955 : Option Addr) (c1956 : Nat) (x1957 : (List Int)) (f1958 : Frag) (A1960 : Option Addr) (c1961 : Nat) (x1962 : (List Int)) (f1963 : Frag) (w : World), kr (x1957, x1962) → (Vec 3 (ci .i64) 1 A1955 x1957 c1956 f1958) → (Vec 3 (ci .i64) 1 A1960 x1962 c1961 f1963) → St w H [f1958, f1963] F → R (.returned (.tuple ⟨[.slice A1955 x1957.length c1956, .slice A1960 x1962.length c1961]⟩)) w) :
    Calls Tryd.prog 35 ⟨[]⟩ w R := by
  refine enter Tryd.func35 rfl Tryd.ntmps35 rfl hS fun a w hS => ?_
  have hM := hm; clear hm
  rw [mortiseref07_Fixed.m] at hM
  refine wp_seq ?_
  refine wp_region_list ?_
  refine st1 hS (asg rfl) rfl fun a w hS => ?_
  obtain ⟨f1851, hV1852, hS⟩ := hS.nilV 3 (ci .i64) 1
  refine st1 hS (asg rfl) rfl fun a w hS => ?_
  obtain ⟨f1853, hV1854, hS⟩ := hS.nilV 3 (ci .i64) 1
  refine wpList_nil ?_
  refine then_n ?_
  refine wp_seq ?_
  refine wp_region_list ?_
  obtain ⟨hk1855, hM⟩ := wp_chk hM
  refine mkS (g := (ci .i64)) (0 : Int) hS rfl rfl (by simp) Tryd.runUnderlying74 X.el3 (fun w => ⟨_, Tryd.zeroValue3 w, rfl⟩) (fun _ => rfl) rfl rfl hk1855 rfl fun zs1860 w A1856 c1857 f1858 hz hV1859 hS => ?_
  have hM := lt_to hz hM; clear hz
  refine st1 hS (asg rfl) rfl fun a w hS => ?_
  refine wpList_nil ?_
  refine then_n ?_
  refine seq_joinJ (fun a w => ∃ (l_1919 : (List Int)) (f1920 : Frag), Ss 40 [] [(2, .slice A1856 l_1919.length c1857)] H [f1920] F a w ∧ (Vec 3 (ci .i64) 1 A1856 l_1919 c1857 f1920) ∧ (mortiseref07_Fixed.j2 K l_1919).wp kr kp) (fun J1922 hJ1922 => ?_) ?_
  · refine wp_seq ?_
    refine wp_region_list ?_
    refine st1 hS (asg rfl) rfl fun a w hS => ?_
    refine wpList_nil ?_
    refine then_n ?_
    refine wp_block ?_
    refine s_loopJ (fun k1894 a w => ∃ (l_1890 : (List Int)) (f1891 : Frag) (i1893 : Int), Ss 40 [] [(2, .slice A1856 l_1890.length c1857), (3, .int .i64 i1893)] H [f1891] F a w ∧ (Vec 3 (ci .i64) 1 A1856 l_1890 c1857 f1891) ∧ (mortiseref07_Fixed.l1 K k1894 l_1890 i1893).wp kr kp) K ?_ ?_ ?_
    · exact ⟨zs1860, f1858, (0 : Int), hS.to [0] (by kernel_rfl) ⟨rfl, rfl, trivial⟩, hV1859, hM⟩
    · intro a w hI; obtain ⟨_, _, _, _, _, hM⟩ := hI; exact hM
    · intro k1894 a w hI J1918 hJ1918
      obtain ⟨l_1890, f1891, i1893, hS, hV1892, hM⟩ := hI
      rw [mortiseref07_Fixed.l1] at hM
      refine wp_seq ?_
      refine wp_seq ?_
      refine wp_region_list ?_
      refine st1 hS (mv rfl) rfl fun a w hS => ?_
      refine st1 hS (bin rfl rfl rfl) rfl fun a w hS => ?_
      refine wpList_nil ?_
      refine then_n ?_
      refine s_cond hS rfl hM (fun hb1895 hM => ?_) (fun hb1895 hM => ?_)
      · refine wp_skip ?_
        refine then_n ?_
        refine wp_seq ?_
        refine wp_block ?_
        refine wp_block ?_
        refine wp_seq ?_
        refine wp_region_list ?_
        refine st1 hS (mv rfl) rfl fun a w hS => ?_
        refine st1 hS (bin rfl rfl rfl) rfl fun a w hS => ?_
        refine st1 hS (mv rfl) rfl fun a w hS => ?_
        refine g_op 2 false 17 (b := (decide (i1893 < (144 : Int)))) (r := (decide (i1893 > (279 : Int)))) hS rfl rfl rfl rfl rfl rfl rfl (fun hb a w hS K hK => ?_) rfl fun a w hS => ?_
        · refine st1g hS rfl rfl rfl hb (mv rfl) rfl fun a w hS => ?_
          refine st1g hS rfl rfl rfl hb (bin rfl rfl rfl) rfl fun a w hS => ?_
          exact wpList_nil (hK _ _ (hS.up 2 rfl rfl))
        refine st1x (v := Value.bool) hS (asg rfl) rfl fun v1896 a w hz hS => ?_
        have hM := lt_to hz hM; clear hz
        refine wpList_nil ?_
        refine then_n ?_
        refine s_cond hS rfl hM (fun hb1897 hM => ?_) (fun hb1897 hM => ?_)
        · refine wp_region_list ?_
          refine st1 hS (mv rfl) rfl fun a w hS => ?_
          refine st1 hS (mv rfl) rfl fun a w hS => ?_
          obtain ⟨hk1898, hM⟩ := wp_chk hM
          refine st1 hS (ixV rfl rfl Tryd.runUnderlying74 Tryd.sizeOf3 (hV1892.rd (i := 0) rfl) (fun _ => rfl) rfl hk1898) rfl fun a w hS => ?_
          refine stV 0 0 ((8 : Int)) hS rfl rfl hV1892 rfl Tryd.sizeOf3 (one_t3 (8 : Int)) (fun _ => rfl) hk1898 rfl rfl fun zs1901 w f1899 hz hz1902 hV1900 hS => ?_
          have hM := lt_to hz hM; clear hz
          replace hS := hS.re 2 (u := .slice A1856 l_1890.length c1857) (v := .slice A1856 zs1901.length c1857) rfl (by rw [hz1902])
          replace hS := hS.re 21 (u := .slice A1856 l_1890.length c1857) (v := .slice A1856 zs1901.length c1857) rfl (by rw [hz1902])
          refine wpList_nil ?_
          refine blk_n (blk_n (then_n ?_))
          refine wp_region_list ?_
          refine st1 hS (mv rfl) rfl fun a w hS => ?_
          refine st1 hS (bin rfl rfl rfl) rfl fun a w hS => ?_
          refine st1x (v := Value.int .i64) hS (asg rfl) rfl fun i1903 a w hz hS => ?_
          have hM := lt_to hz hM; clear hz
          refine wpList_nil ?_
          refine then_n ?_
          exact hJ1918 _ _ ⟨zs1901, f1899, i1903, hS.to [0] (by kernel_rfl) ⟨rfl, rfl, trivial⟩, hV1900, hM⟩
        · refine wp_seq ?_
          refine wp_region_list ?_
          refine st1 hS (mv rfl) rfl fun a w hS => ?_
          refine st1 hS (bin rfl rfl rfl) rfl fun a w hS => ?_
          refine st1x (v := Value.bool) hS (asg rfl) rfl fun v1904 a w hz hS => ?_
          have hM := lt_to hz hM; clear hz
          refine wpList_nil ?_
          refine then_n ?_
          refine s_cond hS rfl hM (fun hb1905 hM => ?_) (fun hb1905 hM => ?_)
          · refine wp_region_list ?_
            refine st1 hS (mv rfl) rfl fun a w hS => ?_
            refine st1 hS (mv rfl) rfl fun a w hS => ?_
            obtain ⟨hk1906, hM⟩ := wp_chk hM
            refine st1 hS (ixV rfl rfl Tryd.runUnderlying74 Tryd.sizeOf3 (hV1892.rd (i := 0) rfl) (fun _ => rfl) rfl hk1906) rfl fun a w hS => ?_
            refine stV 0 0 ((9 : Int)) hS rfl rfl hV1892 rfl Tryd.sizeOf3 (one_t3 (9 : Int)) (fun _ => rfl) hk1906 rfl rfl fun zs1909 w f1907 hz hz1910 hV1908 hS => ?_
            have hM := lt_to hz hM; clear hz
            replace hS := hS.re 2 (u := .slice A1856 l_1890.length c1857) (v := .slice A1856 zs1909.length c1857) rfl (by rw [hz1910])
            replace hS := hS.re 27 (u := .slice A1856 l_1890.length c1857) (v := .slice A1856 zs1909.length c1857) rfl (by rw [hz1910])
            refine wpList_nil ?_
            refine blk_n (blk_n (then_n ?_))
            refine wp_region_list ?_
            refine st1 hS (mv rfl) rfl fun a w hS => ?_
            refine st1 hS (bin rfl rfl rfl) rfl fun a w hS => ?_
            refine st1x (v := Value.int .i64) hS (asg rfl) rfl fun i1911 a w hz hS => ?_
            have hM := lt_to hz hM; clear hz
            refine wpList_nil ?_
            refine then_n ?_
            exact hJ1918 _ _ ⟨zs1909, f1907, i1911, hS.to [0] (by kernel_rfl) ⟨rfl, rfl, trivial⟩, hV1908, hM⟩
          · refine wp_region_list ?_
            refine st1 hS (mv rfl) rfl fun a w hS => ?_
            refine st1 hS (mv rfl) rfl fun a w hS => ?_
            obtain ⟨hk1912, hM⟩ := wp_chk hM
            refine st1 hS (ixV rfl rfl Tryd.runUnderlying74 Tryd.sizeOf3 (hV1892.rd (i := 0) rfl) (fun _ => rfl) rfl hk1912) rfl fun a w hS => ?_
            refine stV 0 0 ((7 : Int)) hS rfl rfl hV1892 rfl Tryd.sizeOf3 (one_t3 (7 : Int)) (fun _ => rfl) hk1912 rfl rfl fun zs1915 w f1913 hz hz1916 hV1914 hS => ?_
            have hM := lt_to hz hM; clear hz
            replace hS := hS.re 2 (u := .slice A1856 l_1890.length c1857) (v := .slice A1856 zs1915.length c1857) rfl (by rw [hz1916])
            replace hS := hS.re 11 (u := .slice A1856 l_1890.length c1857) (v := .slice A1856 zs1915.length c1857) rfl (by rw [hz1916])
            refine wpList_nil ?_
            refine blk_n (blk_n (then_n ?_))
            refine wp_region_list ?_
            refine st1 hS (mv rfl) rfl fun a w hS => ?_
            refine st1 hS (bin rfl rfl rfl) rfl fun a w hS => ?_
            refine st1x (v := Value.int .i64) hS (asg rfl) rfl fun i1917 a w hz hS => ?_
            have hM := lt_to hz hM; clear hz
            refine wpList_nil ?_
            refine then_n ?_
            exact hJ1918 _ _ ⟨zs1915, f1913, i1917, hS.to [0] (by kernel_rfl) ⟨rfl, rfl, trivial⟩, hV1914, hM⟩
      · refine wp_exit ?_
        refine then_ex (then_ex (blk_same (then_n ?_)))
        exact hJ1922 _ _ ⟨l_1890, f1891, hS.to [0] (by kernel_rfl) ⟨rfl, trivial⟩, hV1892, hM⟩
  · intro a w hI
    obtain ⟨l_1919, f1920, hS, hV1921, hM⟩ := hI
    rw [mortiseref07_Fixed.j2] at hM
    refine wp_seq ?_
    refine wp_region_list ?_
    obtain ⟨hk1923, hM⟩ := wp_chk hM
    refine mkS (g := (ci .i64)) (0 : Int) hS rfl rfl (by simp) Tryd.runUnderlying74 X.el3 (fun w => ⟨_, Tryd.zeroValue3 w, rfl⟩) (fun _ => rfl) rfl rfl hk1923 rfl fun zs1928 w A1924 c1925 f1926 hz hV1927 hS => ?_
    have hM := lt_to hz hM; clear hz
    refine st1 hS (asg rfl) rfl fun a w hS => ?_
    refine wpList_nil ?_
    refine then_n ?_
    refine wp_seq ?_
    refine wp_seq ?_
    refine wp_region_list ?_
    refine st1 hS (asg rfl) rfl fun a w hS => ?_
    refine wpList_nil ?_
    refine then_n ?_
    refine wp_block ?_
    refine s_loopJ (fun k1946 a w => ∃ (d1942 : (List Int)) (f1943 : Frag) (i1945 : Int), Ss 40 [] [(2, .slice A1856 l_1919.length c1857), (4, .slice A1924 d1942.length c1925), (5, .int .i64 i1945)] H [f1920, f1943] F a w ∧ (Vec 3 (ci .i64) 1 A1924 d1942 c1925 f1943) ∧ (mortiseref07_Fixed.l3 K l_1919 k1946 d1942 i1945).wp kr kp) K ?_ ?_ ?_
    · exact ⟨zs1928, f1926, (0 : Int), hS.to [1, 0] (by kernel_rfl) ⟨rfl, rfl, rfl, trivial⟩, hV1927, hM⟩
    · intro a w hI; obtain ⟨_, _, _, _, _, hM⟩ := hI; exact hM
    · intro k1946 a w hI J1954 hJ1954
      obtain ⟨d1942, f1943, i1945, hS, hV1944, hM⟩ := hI
      rw [mortiseref07_Fixed.l3] at hM
      refine wp_seq ?_
      refine wp_seq ?_
      refine wp_region_list ?_
      refine st1 hS (mv rfl) rfl fun a w hS => ?_
      refine st1 hS (bin rfl rfl rfl) rfl fun a w hS => ?_
      refine wpList_nil ?_
      refine then_n ?_
      refine s_cond hS rfl hM (fun hb1947 hM => ?_) (fun hb1947 hM => ?_)
      · refine wp_skip ?_
        refine then_n ?_
        refine wp_seq ?_
        refine wp_block ?_
        refine wp_region_list ?_
        refine st1 hS (mv rfl) rfl fun a w hS => ?_
        refine st1 hS (mv rfl) rfl fun a w hS => ?_
        obtain ⟨hk1948, hM⟩ := wp_chk hM
        refine st1 hS (ixV rfl rfl Tryd.runUnderlying74 Tryd.sizeOf3 (hV1944.rd (i := 1) rfl) (fun _ => rfl) rfl hk1948) rfl fun a w hS => ?_
        refine stV 1 0 ((5 : Int)) hS rfl rfl hV1944 rfl Tryd.sizeOf3 (one_t3 (5 : Int)) (fun _ => rfl) hk1948 rfl rfl fun zs1951 w f1949 hz hz1952 hV1950 hS => ?_
        have hM := lt_to hz hM; clear hz
        replace hS := hS.re 4 (u := .slice A1924 d1942.length c1925) (v := .slice A1924 zs1951.length c1925) rfl (by rw [hz1952])
        replace hS := hS.re 35 (u := .slice A1924 d1942.length c1925) (v := .slice A1924 zs1951.length c1925) rfl (by rw [hz1952])
        refine wpList_nil ?_
        refine blk_n (then_n ?_)
        refine wp_region_list ?_
        refine st1 hS (mv rfl) rfl fun a w hS => ?_
        refine st1 hS (bin rfl rfl rfl) rfl fun a w hS => ?_
        refine st1x (v := Value.int .i64) hS (asg rfl) rfl fun i1953 a w hz hS => ?_
        have hM := lt_to hz hM; clear hz
        refine wpList_nil ?_
        refine then_n ?_
        exact hJ1954 _ _ ⟨zs1951, f1949, i1953, hS.to [0, 1] (by kernel_rfl) ⟨rfl, rfl, rfl, trivial⟩, hV1950, hM⟩
      · refine wp_exit ?_
        refine then_ex (then_ex (blk_same (then_n ?_)))
        refine wp_seq ?_
        refine wp_region_list ?_
        refine st1 hS (mv rfl) rfl fun a w hS => ?_
        refine st1 hS (mv rfl) rfl fun a w hS => ?_
        refine st1 hS (asg rfl) rfl fun a w hS => ?_
        refine st1 hS (asg rfl) rfl fun a w hS => ?_
        refine wpList_nil ?_
        refine then_n ?_
        refine wp_ret ?_
        exact s_ret (rs := [0, 1]) hS rfl rfl (hret A1856 c1857 l_1919 f1920 A1924 c1925 d1942 f1943 w hM hV1921 hV1944 (hS.st.pick [0, 1] (by kernel_rfl)))

theorem mortiseref06_Check_c {H : Imm} {F : List Frag} {w : World} {R : Ending → World → Prop} {kr : Int → Prop} {kp : Value → Prop} (hG : Gl H) (K : Nat) (l_1994 : List Int) (A1995 : Option Addr) (c1996 : Nat) (hr1997 : Rdl H [] F (ci .i64) A1995 l_1994) (hc1998 : l_1994.length ≤ c1996)
    (hS : St w H [] F) (hm : (mortiseref06_Check.m K l_1994).wp kr kp)
    (hret : ∀ (x2027 : Int) (w : World), kr x2027 → St w H [] F → R (.returned (.int .i64 x2027)) w) :
    Calls Tryd.prog 57 ⟨[.slice A1995 l_1994.length c1996]⟩ w R := by
  refine enter Tryd.func57 rfl Tryd.ntmps57 rfl hS fun a w hS => ?_
  have hM := hm; clear hm
  rw [mortiseref06_Check.m] at hM
  refine wp_seq ?_
  refine wp_region_list ?_
  refine st1 hS (asg rfl) rfl fun a w hS => ?_
  refine wpList_nil ?_
  refine then_n ?_
  refine wp_seq ?_
  refine wp_seq ?_
  refine wp_region_list ?_
  refine st1 hS (mv rfl) rfl fun a w hS => ?_
  refine st1 hS (lenV rfl Tryd.runUnderlying74) rfl fun a w hS => ?_
  refine st1 hS (bin rfl rfl rfl) rfl fun a w hS => ?_
  refine wpList_nil ?_
  refine then_n ?_
  refine s_cond hS rfl hM (fun hb1999 hM => ?_) (fun hb1999 hM => ?_)
  · refine wp_seq ?_
    refine wp_region_list ?_
    refine st1 hS (asg rfl) rfl fun a w hS => ?_
    refine wpList_nil ?_
    refine then_n ?_
    refine wp_ret ?_
    refine then_ret ?_
    exact s_ret (rs := [2]) hS rfl rfl (hret (1 : Int) w hM (hS.st.pick [] (by kernel_rfl)))
  · refine wp_skip ?_
    refine then_n ?_
    refine wp_seq ?_
    refine wp_region_list ?_
    refine st1 hS (asg rfl) rfl fun a w hS => ?_
    refine wpList_nil ?_
    refine then_n ?_
    refine wp_seq ?_
    refine wp_region_list ?_
    refine st1 hS (asg rfl) rfl fun a w hS => ?_
    refine wpList_nil ?_
    refine then_n ?_
    refine wp_seq ?_
    refine wp_region_list ?_
    refine st1 hS (asg rfl) rfl fun a w hS => ?_
    refine wpList_nil ?_
    refine then_n ?_
    refine seq_joinJ (fun a w => ∃ (sum2016 : Int) (n_2017 : Int) (last2018 : Int), Ss 62 [] [(3, .int .i64 sum2016), (4, .int .i64 n_2017), (5, .int .i64 last2018)] H [] F a w ∧ (mortiseref06_Check.j2 K sum2016 n_2017 last2018).wp kr kp) (fun J2019 hJ2019 => ?_) ?_
    · refine wp_seq ?_
      refine wp_region_list ?_
      refine st1 hS (asg rfl) rfl fun a w hS => ?_
      refine wpList_nil ?_
      refine then_n ?_
      refine wp_block ?_
      refine s_loopJ (fun k2004 a w => ∃ (sum2000 : Int) (n_2001 : Int) (last2002 : Int) (i2003 : Int), Ss 62 [] [(0, .slice A1995 l_1994.length c1996), (3, .int .i64 sum2000), (4, .int .i64 n_2001), (5, .int .i64 last2002), (6, .int .i64 i2003)] H [] F a w ∧ (mortiseref06_Check.l1 K l_1994 k2004 sum2000 n_2001 last2002 i2003).wp kr kp) K ?_ ?_ ?_
      · exact ⟨(0 : Int), (0 : Int), (0 : Int), (0 : Int), hS.to [] (by kernel_rfl) ⟨rfl, rfl, rfl, rfl, rfl, trivial⟩, hM⟩
      · intro a w hI; obtain ⟨_, _, _, _, _, hM⟩ := hI; exact hM
      · intro k2004 a w hI J2015 hJ2015
        obtain ⟨sum2000, n_2001, last2002, i2003, hS, hM⟩ := hI
        rw [mortiseref06_Check.l1] at hM
        refine wp_seq ?_
        refine wp_seq ?_
        refine wp_region_list ?_
        refine st1 hS (mv rfl) rfl fun a w hS => ?_
        refine st1 hS (mv rfl) rfl fun a w hS => ?_
        refine st1 hS (lenV rfl Tryd.runUnderlying74) rfl fun a w hS => ?_
        refine st1 hS (bin rfl rfl rfl) rfl fun a w hS => ?_
        refine wpList_nil ?_
        refine then_n ?_
        refine s_cond hS rfl hM (fun hb2005 hM => ?_) (fun hb2005 hM => ?_)
        · refine wp_skip ?_
          refine then_n ?_
          refine wp_seq ?_
          refine wp_block ?_
          refine wp_seq ?_
          refine wp_seq ?_
          refine wp_region_list ?_
          refine st1 hS (mv rfl) rfl fun a w hS => ?_
          refine st1 hS (mv rfl) rfl fun a w hS => ?_
          obtain ⟨hk2006, hM⟩ := wp_chk hM
          refine st1 hS (ixV rfl rfl Tryd.runUnderlying74 Tryd.sizeOf3 hr1997.wk (fun _ => rfl) rfl hk2006) rfl fun a w hS => ?_
          refine st1 hS (ldV0 rfl hr1997.wk (fun _ => rfl) hk2006 rfl Tryd.isAgg3) rfl fun a w hS => ?_
          refine st1 hS (bin rfl rfl rfl) rfl fun a w hS => ?_
          refine st1 hS (mv rfl) rfl fun a w hS => ?_
          refine g_op 5 false 21 (b := (decide ((rd l_1994 i2003) < (0 : Int)))) (r := (decide ((rd l_1994 i2003) > (15 : Int)))) hS rfl rfl rfl rfl rfl rfl rfl (fun hb a w hS K hK => ?_) rfl fun a w hS => ?_
          · refine st1g hS rfl rfl rfl hb (mv rfl) rfl fun a w hS => ?_
            refine st1g hS rfl rfl rfl hb (mv rfl) rfl fun a w hS => ?_
            refine st1g hS rfl rfl rfl hb (ixV rfl rfl Tryd.runUnderlying74 Tryd.sizeOf3 hr1997.wk (fun _ => rfl) rfl hk2006) rfl fun a w hS => ?_
            refine st1g hS rfl rfl rfl hb (ldV0 rfl hr1997.wk (fun _ => rfl) hk2006 rfl Tryd.isAgg3) rfl fun a w hS => ?_
            refine st1g hS rfl rfl rfl hb (bin rfl rfl rfl) rfl fun a w hS => ?_
            exact wpList_nil (hK _ _ (hS.up 5 rfl rfl))
          refine wpList_nil ?_
          refine then_n ?_
          refine s_cond hS rfl hM (fun hb2007 hM => ?_) (fun hb2007 hM => ?_)
          · refine wp_seq ?_
            refine wp_region_list ?_
            refine st1 hS (asg rfl) rfl fun a w hS => ?_
            refine wpList_nil ?_
            refine then_n ?_
            refine wp_ret ?_
            refine then_ret (blk_ret (then_ret (then_ret (blk_ret (then_ret ?_)))))
            exact s_ret (rs := [2]) hS rfl rfl (hret (1 : Int) w hM (hS.st.pick [] (by kernel_rfl)))
          · refine wp_skip ?_
            refine then_n ?_
            refine wp_seq ?_
            refine wp_region_list ?_
            refine st1 hS (mv rfl) rfl fun a w hS => ?_
            refine st1 hS (mv rfl) rfl fun a w hS => ?_
            refine st1 hS (ixV rfl rfl Tryd.runUnderlying74 Tryd.sizeOf3 hr1997.wk (fun _ => rfl) rfl hk2006) rfl fun a w hS => ?_
            refine st1 hS (ldV0 rfl hr1997.wk (fun _ => rfl) hk2006 rfl Tryd.isAgg3) rfl fun a w hS => ?_
            refine st1 hS (bin rfl rfl rfl) rfl fun a w hS => ?_
            refine wpList_nil ?_
            refine then_n ?_
            refine s_cond hS rfl hM (fun hb2008 hM => ?_) (fun hb2008 hM => ?_)
            · refine wp_seq ?_
              refine wp_region_list ?_
              refine st1 hS (mv rfl) rfl fun a w hS => ?_
              refine st1 hS (mv rfl) rfl fun a w hS => ?_
              refine st1 hS (mv rfl) rfl fun a w hS => ?_
              refine st1 hS (ixV rfl rfl Tryd.runUnderlying74 Tryd.sizeOf3 hr1997.wk (fun _ => rfl) rfl hk2006) rfl fun a w hS => ?_
              refine st1 hS (ldV0 rfl hr1997.wk (fun _ => rfl) hk2006 rfl Tryd.isAgg3) rfl fun a w hS => ?_
              refine st1 hS (bin rfl rfl rfl) rfl fun a w hS => ?_
              refine st1 hS (cvi rfl Tryd.runUnderlying3 Tryd.runUnderlying28) rfl fun a w hS => ?_
              obtain ⟨hk2009, hM⟩ := wp_chk hM
              refine st1 hS (shl rfl rfl hk2009) rfl fun a w hS => ?_
              refine st1 hS (bin rfl rfl rfl) rfl fun a w hS => ?_
              refine st1x (v := Value.int .i64) hS (asg rfl) rfl fun sum2010 a w hz hS => ?_
              have hM := lt_to hz hM; clear hz
              refine wpList_nil ?_
              refine then_n ?_
              refine wp_seq ?_
              refine wp_region_list ?_
              refine st1 hS (mv rfl) rfl fun a w hS => ?_
              refine st1 hS (bin rfl rfl rfl) rfl fun a w hS => ?_
              refine st1x (v := Value.int .i64) hS (asg rfl) rfl fun n_2011 a w hz hS => ?_
              have hM := lt_to hz hM; clear hz
              refine wpList_nil ?_
              refine then_n ?_
              refine wp_region_list ?_
              refine st1 hS (mv rfl) rfl fun a w hS => ?_
              refine st1 hS (mv rfl) rfl fun a w hS => ?_
              refine st1 hS (ixV rfl rfl Tryd.runUnderlying74 Tryd.sizeOf3 hr1997.wk (fun _ => rfl) rfl hk2006) rfl fun a w hS => ?_
              refine st1 hS (ldV0 rfl hr1997.wk (fun _ => rfl) hk2006 rfl Tryd.isAgg3) rfl fun a w hS => ?_
              refine st1x (v := Value.int .i64) hS (asg rfl) rfl fun last2012 a w hz hS => ?_
              have hM := lt_to hz hM; clear hz
              refine wpList_nil ?_
              refine blk_n (then_n ?_)
              refine wp_region_list ?_
              refine st1 hS (mv rfl) rfl fun a w hS => ?_
              refine st1 hS (bin rfl rfl rfl) rfl fun a w hS => ?_
              refine st1x (v := Value.int .i64) hS (asg rfl) rfl fun i2013 a w hz hS => ?_
              have hM := lt_to hz hM; clear hz
              refine wpList_nil ?_
              refine then_n ?_
              exact hJ2015 _ _ ⟨sum2010, n_2011, last2012, i2013, hS.to [] (by kernel_rfl) ⟨rfl, rfl, rfl, rfl, rfl, trivial⟩, hM⟩
            · refine wp_skip ?_
              refine blk_n (then_n ?_)
              refine wp_region_list ?_
              refine st1 hS (mv rfl) rfl fun a w hS => ?_
              refine st1 hS (bin rfl rfl rfl) rfl fun a w hS => ?_
              refine st1x (v := Value.int .i64) hS (asg rfl) rfl fun i2014 a w hz hS => ?_
              have hM := lt_to hz hM; clear hz
              refine wpList_nil ?_
              refine then_n ?_
              exact hJ2015 _ _ ⟨sum2000, n_2001, last2002, i2014, hS.to [] (by kernel_rfl) ⟨rfl, rfl, rfl, rfl, rfl, trivial⟩, hM⟩
        · refine wp_exit ?_
          refine then_ex (then_ex (blk_same (then_n ?_)))
          exact hJ2019 _ _ ⟨sum2000, n_2001, last2002, hS.to [] (by kernel_rfl) ⟨rfl, rfl, rfl, trivial⟩, hM⟩
    · intro a w hI
      obtain ⟨sum2016, n_2017, last2018, hS, hM⟩ := hI
      rw [mortiseref06_Check.j2] at hM
      refine wp_seq ?_
      refine wp_seq ?_
      refine wp_region_list ?_
      refine st1 hS (mv rfl) rfl fun a w hS => ?_
      refine st1 hS (bin rfl rfl rfl) rfl fun a w hS => ?_
      refine st1 hS (mv rfl) rfl fun a w hS => ?_
      refine seg_cutJ (fun a w => ∃ (v2024 : Bool), Ss 62 [] [(3, .int .i64 sum2016), (57, .bool v2024)] H [] F a w ∧ (mortiseref06_Check.j4 K sum2016 v2024).wp kr kp) 7 (fun J2025 hJ2025 => ?_) ?_
      · refine ifB (b := (n_2017 == (0 : Int))) hM (fun hb2020 hM => ?_) (fun hb2020 hM => ?_)
        · replace hS := hS.re 49 (v := .bool true) rfl (congrArg Value.bool hb2020)
          replace hS := hS.re 50 (v := .bool true) rfl (congrArg Value.bool hb2020)
          refine skips 6 hS rfl fun a w hS => ?_
          refine st1 hS (pk rfl rfl rfl) rfl fun a w hS => ?_
          refine wpList_nil ?_
          refine then_n ?_
          exact hJ2025 _ _ ⟨true, hS.to [] (by kernel_rfl) ⟨rfl, rfl, trivial⟩, hM⟩
        · replace hS := hS.re 49 (v := .bool false) rfl (congrArg Value.bool hb2020)
          replace hS := hS.re 50 (v := .bool false) rfl (congrArg Value.bool hb2020)
          refine st1g hS rfl rfl rfl rfl (mv rfl) rfl fun a w hS => ?_
          refine st1g hS rfl rfl rfl rfl (bin rfl rfl rfl) rfl fun a w hS => ?_
          refine st1g hS rfl rfl rfl rfl (mv rfl) rfl fun a w hS => ?_
          refine seg_cutJ (fun a w => ∃ (v2022 : Bool), Ss 62 [] [(3, .int .i64 sum2016), (50, .bool false), (56, .bool v2022)] H [] F a w ∧ (mortiseref06_Check.j3 K sum2016 v2022).wp kr kp) 3 (fun J2023 hJ2023 => ?_) ?_
          · refine ifB (b := (n_2017 == (1 : Int))) hM (fun hb2021 hM => ?_) (fun hb2021 hM => ?_)
            · replace hS := hS.re 52 (v := .bool true) rfl (congrArg Value.bool hb2021)
              replace hS := hS.re 53 (v := .bool true) rfl (congrArg Value.bool hb2021)
              refine st1g hS rfl rfl rfl rfl (mv rfl) rfl fun a w hS => ?_
              refine st1g hS rfl rfl rfl rfl (bin rfl rfl rfl) rfl fun a w hS => ?_
              refine st1g hS rfl rfl rfl rfl (pk rfl rfl rfl) rfl fun a w hS => ?_
              refine wpList_nil ?_
              refine then_n ?_
              exact hJ2023 _ _ ⟨(last2018 == (1 : Int)), hS.to [] (by kernel_rfl) ⟨rfl, rfl, rfl, trivial⟩, hM⟩
            · replace hS := hS.re 52 (v := .bool false) rfl (congrArg Value.bool hb2021)
              replace hS := hS.re 53 (v := .bool false) rfl (congrArg Value.bool hb2021)
              refine skips 2 hS rfl fun a w hS => ?_
              refine st1g hS rfl rfl rfl rfl (pk rfl rfl rfl) rfl fun a w hS => ?_
              refine wpList_nil ?_
              refine then_n ?_
              exact hJ2023 _ _ ⟨false, hS.to [] (by kernel_rfl) ⟨rfl, rfl, rfl, trivial⟩, hM⟩
          · intro a w hI
            obtain ⟨v2022, hS, hM⟩ := hI
            rw [mortiseref06_Check.j3] at hM
            refine st1 hS (pk rfl rfl rfl) rfl fun a w hS => ?_
            refine wpList_nil ?_
            refine then_n ?_
            exact hJ2025 _ _ ⟨v2022, hS.to [] (by kernel_rfl) ⟨rfl, rfl, trivial⟩, hM⟩
      · intro a w hI
        obtain ⟨v2024, hS, hM⟩ := hI
        rw [mortiseref06_Check.j4] at hM
        refine st1 hS (mv rfl) rfl fun a w hS => ?_
        refine g_op 2 false 58 (b := v2024) (r := (sum2016 == (32768 : Int))) hS rfl rfl rfl rfl rfl rfl rfl (fun hb a w hS K hK => ?_) rfl fun a w hS => ?_
        · refine st1g hS rfl rfl rfl hb (mv rfl) rfl fun a w hS => ?_
          refine st1g hS rfl rfl rfl hb (bin rfl rfl rfl) rfl fun a w hS => ?_
          exact wpList_nil (hK _ _ (hS.up 2 rfl rfl))
        refine wpList_nil ?_
        refine then_n ?_
        refine s_cond hS rfl hM (fun hb2026 hM => ?_) (fun hb2026 hM => ?_)
        · refine wp_seq ?_
          refine wp_region_list ?_
          refine st1 hS (asg rfl) rfl fun a w hS => ?_
          refine wpList_nil ?_
          refine then_n ?_
          refine wp_ret ?_
          refine then_ret ?_
          exact s_ret (rs := [2]) hS rfl rfl (hret (0 : Int) w hM (hS.st.pick [] (by kernel_rfl)))
        · refine wp_skip ?_
          refine then_n ?_
          refine wp_seq ?_
          refine wp_region_list ?_
          refine st1 hS (asg rfl) rfl fun a w hS => ?_
          refine wpList_nil ?_
          refine then_n ?_
          refine wp_ret ?_
          exact s_ret (rs := [2]) hS rfl rfl (hret (3 : Int) w hM (hS.st.pick [] (by kernel_rfl)))

theorem mortiseref06_Codes_c {H : Imm} {F : List Frag} {w : World} {R : Ending → World → Prop} {kr : ((List Int) × Int) → Prop} {kp : Value → Prop} (hG : Gl H) (K : Nat) (l_1987 : List Int) (A1988 : Option Addr) (c1989 : Nat) (hr1990 : Rdl H [] F (ci .i64) A1988 l_1987) (hc1991 : l_1987.length ≤ c1989)
    (hS : St w H [] F) (hm : (mortiseref06_Codes.m K l_1987).wp kr kp)
    (hret : ∀ (A2135 : Option Addr) (c2136 : Nat) (x2137 : (List Int)) (f2138 : Frag) (x2140 : Int) (w : World), kr (x2137, x2140) → (Vec 3 (ci .i64) 1 A2135 x2137 c2136 f2138) → St w H [f2138] F → R (.returned (.tuple ⟨[.slice A2135 x2137.length c2136, .int .i64 x2140]⟩)) w) :
    Calls Tryd.prog 48 ⟨[.slice A1988 l_1987.length c1989]⟩ w R := by
  refine enter Tryd.func48 rfl Tryd.ntmps48 rfl hS fun a w hS => ?_
  have hM := hm; clear hm
  rw [mortiseref06_Codes.m] at hM
  refine wp_seq ?_
  refine wp_region_list ?_
  refine st1 hS (asg rfl) rfl fun a w hS => ?_
  obtain ⟨f1992, hV1993, hS⟩ := hS.nilV 3 (ci .i64) 1
  refine st1 hS (asg rfl) rfl fun a w hS => ?_
  refine wpList_nil ?_
  refine then_n ?_
  refine wp_seq ?_
  refine wp_region_list ?_
  refine st1 hS (mv rfl) rfl fun a w hS => ?_
  refine s_call hS rfl Tryd.call57 (mortiseref06_Check_c hG K l_1987 A1988 c1989 (hr1990.app _) hc1991 (hS.st.part 0 [0] (by kernel_rfl)) (wp_bind hM) (fun x2028 w hM  hst => s_back hS.ev hst.appF rfl fun hS => ?_))
  replace hS : Ss _ _ _ H [f1992] F _ _ := hS
  refine st1 hS (asg rfl) rfl fun a w hS => ?_
  refine wpList_nil ?_
  refine then_n ?_
  refine wp_seq ?_
  refine wp_seq ?_
  refine wp_region_list ?_
  refine st1 hS (mv rfl) rfl fun a w hS => ?_
  refine st1 hS (bin rfl rfl rfl) rfl fun a w hS => ?_
  refine wpList_nil ?_
  refine then_n ?_
  refine s_cond hS rfl hM (fun hb2029 hM => ?_) (fun hb2029 hM => ?_)
  · refine wp_seq ?_
    refine wp_region_list ?_
    refine st1 hS (mv rfl) rfl fun a w hS => ?_
    refine st1 hS (asg rfl) rfl fun a w hS => ?_
    obtain ⟨f2030, hV2031, hS⟩ := hS.nilV 3 (ci .i64) 1
    refine st1 hS (asg rfl) rfl fun a w hS => ?_
    refine wpList_nil ?_
    refine then_n ?_
    refine wp_ret ?_
    refine then_ret ?_
    exact s_ret (rs := [2, 3]) hS rfl rfl (hret none (0) ([] : List Int) f2030 x2028 w hM hV2031 (hS.st.pick [0] (by kernel_rfl)))
  · refine wp_skip ?_
    refine then_n ?_
    refine wp_seq ?_
    refine wp_region_list ?_
    refine st1 hS (mv rfl) rfl fun a w hS => ?_
    refine st1 hS (lenV rfl Tryd.runUnderlying74) rfl fun a w hS => ?_
    obtain ⟨hk2032, hM⟩ := wp_chk hM
    refine mkS (g := (ci .i64)) (0 : Int) hS rfl rfl (by simp) Tryd.runUnderlying74 X.el3 (fun w => ⟨_, Tryd.zeroValue3 w, rfl⟩) (fun _ => rfl) rfl rfl hk2032 rfl fun zs2037 w A2033 c2034 f2035 hz hV2036 hS => ?_
    have hM := lt_to hz hM; clear hz
    refine st1 hS (asg rfl) rfl fun a w hS => ?_
    refine wpList_nil ?_
    refine then_n ?_
    refine wp_seq ?_
    refine wp_region_list ?_
    refine st1 hS (asg rfl) rfl fun a w hS => ?_
    refine wpList_nil ?_
    refine then_n ?_
    refine wp_seq ?_
    refine wp_seq ?_
    refine wp_region_list ?_
    refine st1 hS (asg rfl) rfl fun a w hS => ?_
    refine wpList_nil ?_
    refine then_n ?_
    refine wp_block ?_
    refine s_loopJ (fun k2092 a w => ∃ (out2087 : (List Int)) (f2088 : Frag) (code2090 : Int) (length2091 : Int), Ss 42 [] [(0, .slice A1988 l_1987.length c1989), (5, .slice A2033 out2087.length c2034), (6, .int .i64 code2090), (7, .int .i64 length2091)] H [f2088] F a w ∧ (Vec 3 (ci .i64) 1 A2033 out2087 c2034 f2088) ∧ (mortiseref06_Codes.l1 K l_1987 k2092 out2087 code2090 length2091).wp kr kp) K ?_ ?_ ?_
    · exact ⟨zs2037, f2035, (0 : Int), (1 : Int), hS.to [0] (by kernel_rfl) ⟨rfl, rfl, rfl, rfl, trivial⟩, hV2036, hM⟩
    · intro a w hI; obtain ⟨_, _, _, _, _, _, hM⟩ := hI; exact hM
    · intro k2092 a w hI J2134 hJ2134
      obtain ⟨out2087, f2088, code2090, length2091, hS, hV2089, hM⟩ := hI
      rw [mortiseref06_Codes.l1] at hM
      refine wp_seq ?_
      refine wp_seq ?_
      refine wp_region_list ?_
      refine st1 hS (mv rfl) rfl fun a w hS => ?_
      refine st1 hS (bin rfl rfl rfl) rfl fun a w hS => ?_
      refine wpList_nil ?_
      refine then_n ?_
      refine s_cond hS rfl hM (fun hb2093 hM => ?_) (fun hb2093 hM => ?_)
      · refine wp_skip ?_
        refine then_n ?_
        refine wp_seq ?_
        refine wp_block ?_
        refine wp_seq ?_
        refine wp_region_list ?_
        refine st1 hS (mv rfl) rfl fun a w hS => ?_
        refine st1 hS (bin rfl rfl rfl) rfl fun a w hS => ?_
        refine st1x (v := Value.int .i64) hS (asg rfl) rfl fun code2094 a w hz hS => ?_
        have hM := lt_to hz hM; clear hz
        refine wpList_nil ?_
        refine then_n ?_
        refine wp_seq ?_
        refine wp_region_list ?_
        refine st1 hS (asg rfl) rfl fun a w hS => ?_
        refine wpList_nil ?_
        refine then_n ?_
        refine wp_block ?_
        refine s_loopJ (fun k2120 a w => ∃ (out2115 : (List Int)) (f2116 : Frag) (code2118 : Int) (i2119 : Int), Ss 42 [] [(0, .slice A1988 l_1987.length c1989), (5, .slice A2033 out2115.length c2034), (6, .int .i64 code2118), (7, .int .i64 length2091), (8, .int .i64 i2119)] H [f2116] F a w ∧ (Vec 3 (ci .i64) 1 A2033 out2115 c2034 f2116) ∧ (mortiseref06_Codes.l2 K (mortiseref06_Codes.l1 K l_1987 k2092) l_1987 length2091 k2120 out2115 code2118 i2119).wp kr kp) K ?_ ?_ ?_
        · exact ⟨out2087, f2088, code2094, (0 : Int), hS.to [0] (by kernel_rfl) ⟨rfl, rfl, rfl, rfl, rfl, trivial⟩, hV2089, hM⟩
        · intro a w hI; obtain ⟨_, _, _, _, _, _, hM⟩ := hI; exact hM
        · intro k2120 a w hI J2133 hJ2133
          obtain ⟨out2115, f2116, code2118, i2119, hS, hV2117, hM⟩ := hI
          rw [mortiseref06_Codes.l2] at hM
          refine wp_seq ?_
          refine wp_seq ?_
          refine wp_region_list ?_
          refine st1 hS (mv rfl) rfl fun a w hS => ?_
          refine st1 hS (mv rfl) rfl fun a w hS => ?_
          refine st1 hS (lenV rfl Tryd.runUnderlying74) rfl fun a w hS => ?_
          refine st1 hS (bin rfl rfl rfl) rfl fun a w hS => ?_
          refine wpList_nil ?_
          refine then_n ?_
          refine s_cond hS rfl hM (fun hb2121 hM => ?_) (fun hb2121 hM => ?_)
          · refine wp_skip ?_
            refine then_n ?_
            refine wp_seq ?_
            refine wp_block ?_
            refine wp_seq ?_
            refine wp_region_list ?_
            refine st1 hS (mv rfl) rfl fun a w hS => ?_
            refine st1 hS (mv rfl) rfl fun a w hS => ?_
            obtain ⟨hk2123, hM⟩ := wp_chk hM
            refine st1 hS (ixV rfl rfl Tryd.runUnderlying74 Tryd.sizeOf3 hr1990.wk (fun _ => rfl) rfl hk2123) rfl fun a w hS => ?_
            refine st1 hS (ldV0 rfl hr1990.wk (fun _ => rfl) hk2123 rfl Tryd.isAgg3) rfl fun a w hS => ?_
            refine st1 hS (mv rfl) rfl fun a w hS => ?_
            refine st1 hS (bin rfl rfl rfl) rfl fun a w hS => ?_
            refine wpList_nil ?_
            refine then_n ?_
            refine s_cond hS rfl hM (fun hb2124 hM => ?_) (fun hb2124 hM => ?_)
            · refine wp_seq ?_
              refine wp_region_list ?_
              refine st1 hS (mv rfl) rfl fun a w hS => ?_
              refine st1 hS (mv rfl) rfl fun a w hS => ?_
              refine st1 hS (mv rfl) rfl fun a w hS => ?_
              obtain ⟨hk2125, hM⟩ := wp_chk hM
              refine st1 hS (ixV rfl rfl Tryd.runUnderlying74 Tryd.sizeOf3 (hV2117.rd (i := 0) rfl) (fun _ => rfl) rfl hk2125) rfl fun a w hS => ?_
              refine stV 0 0 (code2118) hS rfl rfl hV2117 rfl Tryd.sizeOf3 (one_t3 code2118) (fun _ => rfl) hk2125 rfl rfl fun zs2128 w f2126 hz hz2129 hV2127 hS => ?_
              have hM := lt_to hz hM; clear hz
              replace hS := hS.re 5 (u := .slice A2033 out2115.length c2034) (v := .slice A2033 zs2128.length c2034) rfl (by rw [hz2129])
              replace hS := hS.re 35 (u := .slice A2033 out2115.length c2034) (v := .slice A2033 zs2128.length c2034) rfl (by rw [hz2129])
              refine wpList_nil ?_
              refine then_n ?_
              refine wp_region_list ?_
              refine st1 hS (mv rfl) rfl fun a w hS => ?_
              refine st1 hS (bin rfl rfl rfl) rfl fun a w hS => ?_
              refine st1x (v := Value.int .i64) hS (asg rfl) rfl fun code2130 a w hz hS => ?_
              have hM := lt_to hz hM; clear hz
              refine wpList_nil ?_
              refine blk_n (then_n ?_)
              refine wp_region_list ?_
              refine st1 hS (mv rfl) rfl fun a w hS => ?_
              refine st1 hS (bin rfl rfl rfl) rfl fun a w hS => ?_
              refine st1x (v := Value.int .i64) hS (asg rfl) rfl fun i2131 a w hz hS => ?_
              have hM := lt_to hz hM; clear hz
              refine wpList_nil ?_
              refine then_n ?_
              exact hJ2133 _ _ ⟨zs2128, f2126, code2130, i2131, hS.to [0] (by kernel_rfl) ⟨rfl, rfl, rfl, rfl, rfl, trivial⟩, hV2127, hM⟩
            · refine wp_skip ?_
              refine blk_n (then_n ?_)
              refine wp_region_list ?_
              refine st1 hS (mv rfl) rfl fun a w hS => ?_
              refine st1 hS (bin rfl rfl rfl) rfl fun a w hS => ?_
              refine st1x (v := Value.int .i64) hS (asg rfl) rfl fun i2132 a w hz hS => ?_
              have hM := lt_to hz hM; clear hz
              refine wpList_nil ?_
              refine then_n ?_
              exact hJ2133 _ _ ⟨out2115, f2116, code2118, i2132, hS.to [0] (by kernel_rfl) ⟨rfl, rfl, rfl, rfl, rfl, trivial⟩, hV2117, hM⟩
          · refine wp_exit ?_
            refine then_ex (then_ex (blk_same (blk_n (then_n ?_))))
            refine wp_region_list ?_
            refine st1 hS (mv rfl) rfl fun a w hS => ?_
            refine st1 hS (bin rfl rfl rfl) rfl fun a w hS => ?_
            refine st1x (v := Value.int .i64) hS (asg rfl) rfl fun length2122 a w hz hS => ?_
            have hM := lt_to hz hM; clear hz
            refine wpList_nil ?_
            refine then_n ?_
            exact hJ2134 _ _ ⟨out2115, f2116, code2118, length2122, hS.to [0] (by kernel_rfl) ⟨rfl, rfl, rfl, rfl, trivial⟩, hV2117, hM⟩
      · refine wp_exit ?_
        refine then_ex (then_ex (blk_same (then_n ?_)))
        refine wp_seq ?_
        refine wp_region_list ?_
        refine st1 hS (mv rfl) rfl fun a w hS => ?_
        refine st1 hS (asg rfl) rfl fun a w hS => ?_
        refine st1 hS (asg rfl) rfl fun a w hS => ?_
        refine wpList_nil ?_
        refine then_n ?_
        refine wp_ret ?_
        exact s_ret (rs := [2, 3]) hS rfl rfl (hret A2033 c2034 out2087 f2088 (0 : Int) w hM hV2089 (hS.st.pick [0] (by kernel_rfl)))

theorem mortiseref07_coded_c {H : Imm} {F : List Frag} {w : World} {R : Ending → World → Prop} {kr : ((List Int) × Bool) → Prop} {kp : Value → Prop} (hG : Gl H) (K : Nat) (l_1975 : List Int) (A1976 : Option Addr) (c1977 : Nat) (hr1978 : Rdl H [] F (ci .i64) A1976 l_1975) (hc1979 : l_1975.length ≤ c1977)
    (hS : St w H [] F) (hm : (mortiseref07_coded.m K l_1975).wp kr kp)
    (hret : ∀ (A2150 : Option Addr) (c2151 : Nat) (codes2152 : (List Int)) (f2153 : Frag) (x2155 : Bool) (w : World), kr (codes2152, x2155) → (Vec 3 (ci .i64) 1 A2150 codes2152 c2151 f2153) → St w H [f2153] F → R (.returned (.tuple ⟨[.agg ⟨[.slice A1976 l_1975.length c1977, .slice A2150 codes2152.length c2151]⟩, .bool x2155]⟩)) w) :
    Calls Tryd.prog 36 ⟨[.slice A1976 l_1975.length c1977]⟩ w R := by
  refine enter Tryd.func36 rfl Tryd.ntmps36 rfl hS fun a w hS => ?_
  have hM := hm; clear hm
  rw [mortiseref07_coded.m] at hM
  refine wp_seq ?_
  refine wp_region_list ?_
  refine alc ([.slice none 0 0, .slice none 0 0]) hS Tryd.zeroValue78 rfl rfl fun w b1980 f1981 hB1982 hS => ?_
  obtain ⟨f1983, hV1984, hS⟩ := hS.nilV 3 (ci .i64) 1
  obtain ⟨f1985, hV1986, hS⟩ := hS.nilV 3 (ci .i64) 1
  refine st1 hS (asg rfl) rfl fun a w hS => ?_
  refine wpList_nil ?_
  refine then_n ?_
  refine wp_seq ?_
  refine wp_region_list ?_
  refine st1 hS (mv rfl) rfl fun a w hS => ?_
  refine s_call hS rfl Tryd.call48 (mortiseref06_Codes_c hG K l_1975 A1976 c1977 (hr1978.app _) hc1979 (hS.st.part 0 [0, 1, 2] (by kernel_rfl)) (wp_bind hM) (fun A2141 c2142 x2143 f2144 x2145 w hM h2146 hst => s_back hS.ev hst.appF rfl fun hS => ?_))
  replace hS : Ss _ _ _ H [f2144, f1985, f1983, f1981] F _ _ := hS
  refine st1 hS (mv rfl) rfl fun a w hS => ?_
  refine st1 hS (ex rfl rfl) rfl fun a w hS => ?_
  refine st1 hS (ex rfl rfl) rfl fun a w hS => ?_
  refine st1 hS (asg rfl) rfl fun a w hS => ?_
  refine st1 hS (asg rfl) rfl fun a w hS => ?_
  refine wpList_nil ?_
  refine then_n ?_
  refine wp_seq ?_
  refine wp_region_list ?_
  refine st1 hS (mv rfl) rfl fun a w hS => ?_
  refine st1 hS (mv rfl) rfl fun a w hS => ?_
  refine st1 hS (bld ([.slice A1976 l_1975.length c1977, .slice A2141 x2143.length c2142]) [(0, 1), (1, 1)] Tryd.zeroValue78 Tryd.runUnderlying78 (by intro w; simp [Tryd.sizeOf74]) rfl rfl) rfl fun a w hS => ?_
  refine st1 hS (mv rfl) rfl fun a w hS => ?_
  refine st1 hS (bin rfl rfl rfl) rfl fun a w hS => ?_
  refine stB 3 ([.slice A1976 l_1975.length c1977, .slice A2141 x2143.length c2142]) ([.slice A1976 l_1975.length c1977, .slice A2141 x2143.length c2142]) hS rfl rfl hB1982 rfl rfl Tryd.sizeOf78 (by simp [Value.oneCell']) (Nat.le_of_ble_eq_true rfl) rfl fun w f2147 hB2148 hS => ?_
  refine st1x (v := Value.bool) hS (asg rfl) rfl fun v2149 a w hz hS => ?_
  have hM := lt_to hz hM; clear hz
  refine wpList_nil ?_
  refine then_n ?_
  refine wp_ret ?_
  exact s_retC (vs := [.agg ⟨[.slice A1976 l_1975.length c1977, .slice A2141 x2143.length c2142]⟩, .bool v2149]) hS rfl (by exact ⟨rvA 3 ([.slice A1976 l_1975.length c1977, .slice A2141 x2143.length c2142]) rfl hB2148 rfl rfl rfl Tryd.isAgg78 Tryd.sizeOf78, rvT rfl, trivial⟩) (hret A2141 c2142 x2143 f2144 v2149 w hM h2146 (hS.st.pick [0] (by kernel_rfl)))

theorem mortiseref06_Next_c {H : Imm} {F : List Frag} {w : World} {R : Ending → World → Prop} {kr : (Int × Int × Int) → Prop} {kp : Value → Prop} (hG : Gl H) (K : Nat) (l_2222 : List Int) (codes2227 : List Int) (r2232 : T_mortiseref05_Reader) (A2223 : Option Addr) (c2224 : Nat) (A2228 : Option Addr) (c2229 : Nat) (b2233 : Nat) (f2234 : Frag) (hr2225 : Rdl H [] F (ci .i64) A2223 l_2222) (hc2226 : l_2222.length ≤ c2224) (hr2230 : Rdl H [] F (ci .i64) A2228 codes2227) (hc2231 : codes2227.length ≤ c2229) (hB2235 : Blk f2234 b2233 ([str r2232.S_, .int .i64 r2232.At_]) 57)
    (hS : St w H [f2234] F) (hm : (mortiseref06_Next.m K l_2222 codes2227 r2232).wp kr kp)
    (hret : ∀ (x2331 : Int) (x2332 : Int) (at_2333 : Int) (f2334 : Frag) (w : World), kr (x2331, x2332, at_2333) → (Blk f2334 b2233 ([str r2232.S_, .int .i64 at_2333]) 57) → St w H [f2334] F → R (.returned (.tuple ⟨[.int .i64 x2331, .int .i64 x2332]⟩)) w) :
    Calls Tryd.prog 49 ⟨[.slice A2223 l_2222.length c2224, .slice A2228 codes2227.length c2229, ptr b2233 0]⟩ w R := by
  refine enter Tryd.func49 rfl Tryd.ntmps49 rfl hS fun a w hS => ?_
  have hM := hm; clear hm
  rw [mortiseref06_Next.m] at hM
  refine wp_seq ?_
  refine wp_region_list ?_
  refine st1 hS (asg rfl) rfl fun a w hS => ?_
  refine st1 hS (asg rfl) rfl fun a w hS => ?_
  refine wpList_nil ?_
  refine then_n ?_
  refine wp_seq ?_
  refine wp_region_list ?_
  refine st1 hS (mv rfl) rfl fun a w hS => ?_
  refine st1 hS (nck rfl) rfl fun a w hS => ?_
  refine st1 hS (fad rfl Tryd.runUnderlying57 rfl Tryd.sizeOf3 rfl) rfl fun a w hS => ?_
  refine st1 hS (ldb 0 rfl hB2235 rfl rfl Tryd.isAgg3) rfl fun a w hS => ?_
  refine st1 hS (asg rfl) rfl fun a w hS => ?_
  refine wpList_nil ?_
  refine then_n ?_
  refine wp_seq ?_
  refine wp_region_list ?_
  refine st1 hS (asg rfl) rfl fun a w hS => ?_
  refine wpList_nil ?_
  refine then_n ?_
  refine seq_joinJ (fun a w => ∃ (at_2325 : Int) (f2326 : Frag), Ss 100 [] [(2, ptr b2233 0), (8, .int .i64 r2232.At_)] H [f2326] F a w ∧ (Blk f2326 b2233 ([str r2232.S_, .int .i64 at_2325]) 57) ∧ (mortiseref06_Next.j4 K r2232 at_2325).wp kr kp) (fun J2328 hJ2328 => ?_) ?_
  · refine wp_seq ?_
    refine wp_region_list ?_
    refine st1 hS (asg rfl) rfl fun a w hS => ?_
    refine wpList_nil ?_
    refine then_n ?_
    refine wp_block ?_
    refine s_loopJ (fun k2286 a w => ∃ (at_2281 : Int) (f2282 : Frag) (v2284 : Int) (length2285 : Int), Ss 100 [] [(0, .slice A2223 l_2222.length c2224), (1, .slice A2228 codes2227.length c2229), (2, ptr b2233 0), (8, .int .i64 r2232.At_), (9, .int .i64 v2284), (10, .int .i64 length2285)] H [f2282] F a w ∧ (Blk f2282 b2233 ([str r2232.S_, .int .i64 at_2281]) 57) ∧ (mortiseref06_Next.l1 K l_2222 codes2227 r2232 k2286 at_2281 v2284 length2285).wp kr kp) K ?_ ?_ ?_
    · exact ⟨r2232.At_, f2234, (0 : Int), (0 : Int), hS.to [0] (by kernel_rfl) ⟨rfl, rfl, rfl, rfl, rfl, rfl, trivial⟩, hB2235, hM⟩
    · intro a w hI; obtain ⟨_, _, _, _, _, _, hM⟩ := hI; exact hM
    · intro k2286 a w hI J2324 hJ2324
      obtain ⟨at_2281, f2282, v2284, length2285, hS, hB2283, hM⟩ := hI
      rw [mortiseref06_Next.l1] at hM
      refine wp_seq ?_
      refine wp_seq ?_
      refine wp_region_list ?_
      refine st1 hS (mv rfl) rfl fun a w hS => ?_
      refine st1 hS (bin rfl rfl rfl) rfl fun a w hS => ?_
      refine wpList_nil ?_
      refine then_n ?_
      refine s_cond hS rfl hM (fun hb2287 hM => ?_) (fun hb2287 hM => ?_)
      · refine wp_skip ?_
        refine then_n ?_
        refine wp_seq ?_
        refine wp_block ?_
        refine wp_seq ?_
        refine wp_region_list ?_
        refine st1 hS (asg rfl) rfl fun a w hS => ?_
        refine wpList_nil ?_
        refine then_n ?_
        refine seq_joinJ (fun a w => ∃ (begins2309 : Bool), Ss 100 [] [(0, .slice A2223 l_2222.length c2224), (1, .slice A2228 codes2227.length c2229), (2, ptr b2233 0), (8, .int .i64 r2232.At_), (9, .int .i64 v2284), (10, .int .i64 length2285), (11, .bool begins2309)] H [f2282] F a w ∧ (mortiseref06_Next.j3 K (mortiseref06_Next.l1 K l_2222 codes2227 r2232 k2286) r2232 at_2281 v2284 length2285 begins2309).wp kr kp) (fun J2310 hJ2310 => ?_) ?_
        · refine wp_seq ?_
          refine wp_region_list ?_
          refine st1 hS (asg rfl) rfl fun a w hS => ?_
          refine wpList_nil ?_
          refine then_n ?_
          refine wp_block ?_
          refine s_loopJ (fun k2290 a w => ∃ (begins2288 : Bool) (i2289 : Int), Ss 100 [] [(0, .slice A2223 l_2222.length c2224), (1, .slice A2228 codes2227.length c2229), (2, ptr b2233 0), (8, .int .i64 r2232.At_), (9, .int .i64 v2284), (10, .int .i64 length2285), (11, .bool begins2288), (12, .int .i64 i2289)] H [f2282] F a w ∧ (mortiseref06_Next.l2 K (mortiseref06_Next.l1 K l_2222 codes2227 r2232 k2286) l_2222 codes2227 r2232 at_2281 v2284 length2285 k2290 begins2288 i2289).wp kr kp) K ?_ ?_ ?_
          · exact ⟨false, (0 : Int), hS.to [0] (by kernel_rfl) ⟨rfl, rfl, rfl, rfl, rfl, rfl, rfl, rfl, trivial⟩, hM⟩
          · intro a w hI; obtain ⟨_, _, _, hM⟩ := hI; exact hM
          · intro k2290 a w hI J2308 hJ2308
            obtain ⟨begins2288, i2289, hS, hM⟩ := hI
            rw [mortiseref06_Next.l2] at hM
            refine wp_seq ?_
            refine wp_seq ?_
            refine wp_region_list ?_
            refine st1 hS (mv rfl) rfl fun a w hS => ?_
            refine st1 hS (mv rfl) rfl fun a w hS => ?_
            refine st1 hS (lenV rfl Tryd.runUnderlying74) rfl fun a w hS => ?_
            refine st1 hS (bin rfl rfl rfl) rfl fun a w hS => ?_
            refine wpList_nil ?_
            refine then_n ?_
            refine s_cond hS rfl hM (fun hb2291 hM => ?_) (fun hb2291 hM => ?_)
            · refine wp_skip ?_
              refine then_n ?_
              refine wp_seq ?_
              refine wp_block ?_
              refine wp_seq ?_
              refine wp_seq ?_
              refine wp_region_list ?_
              refine st1 hS (mv rfl) rfl fun a w hS => ?_
              refine st1 hS (mv rfl) rfl fun a w hS => ?_
              obtain ⟨hk2292, hM⟩ := wp_chk hM
              refine st1 hS (ixV rfl rfl Tryd.runUnderlying74 Tryd.sizeOf3 hr2225.wk (fun _ => rfl) rfl hk2292) rfl fun a w hS => ?_
              refine st1 hS (ldV0 rfl hr2225.wk (fun _ => rfl) hk2292 rfl Tryd.isAgg3) rfl fun a w hS => ?_
              refine st1 hS (mv rfl) rfl fun a w hS => ?_
              refine st1 hS (bin rfl rfl rfl) rfl fun a w hS => ?_
              refine st1 hS (mv rfl) rfl fun a w hS => ?_
              refine g_op 2 true 35 (b := ((rd l_2222 i2289) == length2285)) (r := (decide (length2285 > (0 : Int)))) hS rfl rfl rfl rfl rfl rfl rfl (fun hb a w hS K hK => ?_) rfl fun a w hS => ?_
              · refine st1g hS rfl rfl rfl hb (mv rfl) rfl fun a w hS => ?_
                refine st1g hS rfl rfl rfl hb (bin rfl rfl rfl) rfl fun a w hS => ?_
                exact wpList_nil (hK _ _ (hS.up 2 rfl rfl))
              refine st1 hS (mv rfl) rfl fun a w hS => ?_
              obtain ⟨hk2295, hM⟩ := wp_chk hM
              refine g_op 6 true 39 (b := (((rd l_2222 i2289) == length2285) && (decide (length2285 > (0 : Int))))) (r := ((rd codes2227 i2289) == v2284)) hS rfl rfl rfl rfl rfl rfl rfl (fun hb a w hS K hK => ?_) rfl fun a w hS => ?_
              · refine st1g hS rfl rfl rfl hb (mv rfl) rfl fun a w hS => ?_
                refine st1g hS rfl rfl rfl hb (mv rfl) rfl fun a w hS => ?_
                have hk2294 := imp_of hk2295 hb
                refine st1g hS rfl rfl rfl hb (ixV rfl rfl Tryd.runUnderlying74 Tryd.sizeOf3 hr2230.wk (fun _ => rfl) rfl hk2294) rfl fun a w hS => ?_
                refine st1g hS rfl rfl rfl hb (ldV0 rfl hr2230.wk (fun _ => rfl) hk2294 rfl Tryd.isAgg3) rfl fun a w hS => ?_
                refine st1g hS rfl rfl rfl hb (mv rfl) rfl fun a w hS => ?_
                refine st1g hS rfl rfl rfl hb (bin rfl rfl rfl) rfl fun a w hS => ?_
                exact wpList_nil (hK _ _ (hS.up 6 rfl rfl))
              refine wpList_nil ?_
              refine then_n ?_
              refine s_cond hS rfl hM (fun hb2296 hM => ?_) (fun hb2296 hM => ?_)
              · refine wp_seq ?_
                refine wp_region_list ?_
                refine st1 hS (mv rfl) rfl fun a w hS => ?_
                refine st1 hS (asg rfl) rfl fun a w hS => ?_
                refine st1 hS (asg rfl) rfl fun a w hS => ?_
                refine wpList_nil ?_
                refine then_n ?_
                refine wp_ret ?_
                refine then_ret (blk_ret (then_ret (then_ret (blk_ret (then_ret (blk_ret (then_ret (then_ret (blk_ret (then_ret ?_))))))))))
                exact s_ret (rs := [6, 7]) hS rfl rfl (hret i2289 (0 : Int) at_2281 f2282 w hM hB2283 (hS.st.pick [0] (by kernel_rfl)))
              · refine wp_skip ?_
                refine then_n ?_
                refine ifB (b := begins2288) hM (fun hb2297 hM => ?_) (fun hb2297 hM => ?_)
                · refine draw_begin (vals := [some (.bool true), some (.bool true), some (undef), some (undef), some (undef), some (undef), some (undef), some (undef), some (undef), some (undef), some (undef), some (undef), some (undef), some (undef), some (undef), some (undef), some (undef), some (undef), some (undef), some (undef), some (undef), some (undef), some (undef), some (undef), some (.bool true), some (.bool true)]) hS mixed rfl ?_
                  intro l w ho hcl hA hst
                  refine phaseE (vals := [some (.bool true), some (.bool true), some (undef), some (undef), some (undef), some (undef), some (undef), some (undef), some (undef), some (undef), some (undef), some (undef), some (undef), some (undef), some (undef), some (undef), some (undef), some (undef), some (undef), some (undef), some (undef), some (undef), some (undef), some (undef), some (.bool true), some (.bool true)]) [] [0, 1, 2, 3, 4, 5, 6, 7, 8, 9, 10, 11, 12, 13, 14, 15, 16, 17, 18, 19, 20, 21, 22, 23, 24, 25] rfl rfl rfl (by exact ⟨nR rfl rfl rfl rfl rfl (by exact ovE (mv rfl) (congrArg Value.bool hb2297)), nR rfl rfl rfl rfl rfl (by exact ovE (mv rfl) rfl), nS rfl rfl rfl rfl rfl rfl rfl rfl rfl, nS rfl rfl rfl rfl rfl rfl rfl rfl rfl, nS rfl rfl rfl rfl rfl rfl rfl rfl rfl, nS rfl rfl rfl rfl rfl rfl rfl rfl rfl, nS rfl rfl rfl rfl rfl rfl rfl rfl rfl, nS rfl rfl rfl rfl rfl rfl rfl rfl rfl, nS rfl rfl rfl rfl rfl rfl rfl rfl rfl, nS rfl rfl rfl rfl rfl rfl rfl rfl rfl, nS rfl rfl rfl rfl rfl rfl rfl rfl rfl, nS rfl rfl rfl rfl rfl rfl rfl rfl rfl, nS rfl rfl rfl rfl rfl rfl rfl rfl rfl, nS rfl rfl rfl rfl rfl rfl rfl rfl rfl, nS rfl rfl rfl rfl rfl rfl rfl rfl rfl, nS rfl rfl rfl rfl rfl rfl rfl rfl rfl, nS rfl rfl rfl rfl rfl rfl rfl rfl rfl, nS rfl rfl rfl rfl rfl rfl rfl rfl rfl, nS rfl rfl rfl rfl rfl rfl rfl rfl rfl, nS rfl rfl rfl rfl rfl rfl rfl rfl rfl, nS rfl rfl rfl rfl rfl rfl rfl rfl rfl, nS rfl rfl rfl rfl rfl rfl rfl rfl rfl, nS rfl rfl rfl rfl rfl rfl rfl rfl rfl, nS rfl rfl rfl rfl rfl rfl rfl rfl rfl, nR rfl rfl rfl rfl rfl (by exact ovE (pk rfl rfl rfl) rfl), nR rfl rfl rfl rfl rfl (by exact ovE (asg rfl) rfl), trivial⟩) (fun a w hS => ?_) ho hcl (fun m hm => (List.not_mem_nil hm).elim) hA hst
                  replace hS := hS.env2 (e' := [(0, .slice A2223 l_2222.length c2224), (1, .slice A2228 codes2227.length c2229), (2, ptr b2233 0), (8, .int .i64 r2232.At_), (9, .int .i64 v2284), (10, .int .i64 length2285), (11, .bool true), (12, .int .i64 i2289)]) ⟨rfl, rfl, rfl, rfl, rfl, rfl, rfl, rfl, trivial⟩
                  refine blk_n (then_n ?_)
                  refine wp_region_list ?_
                  refine st1 hS (mv rfl) rfl fun a w hS => ?_
                  refine st1 hS (bin rfl rfl rfl) rfl fun a w hS => ?_
                  refine st1x (v := Value.int .i64) hS (asg rfl) rfl fun i2298 a w hz hS => ?_
                  have hM := lt_to hz hM; clear hz
                  refine wpList_nil ?_
                  refine then_n ?_
                  exact hJ2308 _ _ ⟨true, i2298, hS.to [0] (by kernel_rfl) ⟨rfl, rfl, rfl, rfl, rfl, rfl, rfl, rfl, trivial⟩, hM⟩
                · refine ifB (b := (decide ((rd l_2222 i2289) > length2285))) hM (fun hb2299 hM => ?_) (fun hb2299 hM => ?_)
                  · obtain ⟨hk2301, hM⟩ := wp_chk hM
                    obtain ⟨hk2303, hM⟩ := wp_chk hM
                    obtain ⟨begins2304, hz2305⟩ : ∃ x, x = ((ishr .i64 (rd codes2227 i2289) (wr .u64 (w64 ((rd l_2222 i2289) - length2285)))) == v2284) := ⟨_, rfl⟩
                    replace hM := lt_to hz2305 hM
                    refine draw_begin (vals := [some (.bool false), some (.bool false), some (.slice A2223 l_2222.length c2224), some (.int .i64 i2289), some (slp A2223 (Int.toNat i2289 * 1)), some (.int .i64 (rd l_2222 i2289)), some (.int .i64 length2285), some (.bool true), some (.bool true), some (.slice A2228 codes2227.length c2229), some (.int .i64 i2289), some (slp A2228 (Int.toNat i2289 * 1)), some (.int .i64 (rd codes2227 i2289)), some (.slice A2223 l_2222.length c2224), some (.int .i64 i2289), some (slp A2223 (Int.toNat i2289 * 1)), some (.int .i64 (rd l_2222 i2289)), some (.int .i64 length2285), some (.int .i64 (w64 ((rd l_2222 i2289) - length2285))), some (.int .u64 (wr .u64 (w64 ((rd l_2222 i2289) - length2285)))), some (.int .i64 (ishr .i64 (rd codes2227 i2289) (wr .u64 (w64 ((rd l_2222 i2289) - length2285))))), some (.int .i64 v2284), some (.bool ((ishr .i64 (rd codes2227 i2289) (wr .u64 (w64 ((rd l_2222 i2289) - length2285)))) == v2284)), some (.bool ((ishr .i64 (rd codes2227 i2289) (wr .u64 (w64 ((rd l_2222 i2289) - length2285)))) == v2284)), some (.bool ((ishr .i64 (rd codes2227 i2289) (wr .u64 (w64 ((rd l_2222 i2289) - length2285)))) == v2284)), some (.bool begins2304)]) hS mixed rfl ?_
                    intro l w ho hcl hA hst
                    refine phaseE (vals := [some (.bool false), some (.bool false), some (.slice A2223 l_2222.length c2224), some (.int .i64 i2289), some (slp A2223 (Int.toNat i2289 * 1)), some (.int .i64 (rd l_2222 i2289)), some (.int .i64 length2285), some (.bool true), some (.bool true), some (.slice A2228 codes2227.length c2229), some (.int .i64 i2289), some (slp A2228 (Int.toNat i2289 * 1)), some (.int .i64 (rd codes2227 i2289)), some (.slice A2223 l_2222.length c2224), some (.int .i64 i2289), some (slp A2223 (Int.toNat i2289 * 1)), some (.int .i64 (rd l_2222 i2289)), some (.int .i64 length2285), some (.int .i64 (w64 ((rd l_2222 i2289) - length2285))), some (.int .u64 (wr .u64 (w64 ((rd l_2222 i2289) - length2285)))), some (.int .i64 (ishr .i64 (rd codes2227 i2289) (wr .u64 (w64 ((rd l_2222 i2289) - length2285))))), some (.int .i64 v2284), some (.bool ((ishr .i64 (rd codes2227 i2289) (wr .u64 (w64 ((rd l_2222 i2289) - length2285)))) == v2284)), some (.bool ((ishr .i64 (rd codes2227 i2289) (wr .u64 (w64 ((rd l_2222 i2289) - length2285)))) == v2284)), some (.bool ((ishr .i64 (rd codes2227 i2289) (wr .u64 (w64 ((rd l_2222 i2289) - length2285)))) == v2284)), some (.bool begins2304)]) [] [0, 1, 2, 3, 4, 5, 6, 7, 8, 9, 10, 11, 12, 13, 14, 15, 16, 17, 18, 19, 20, 21, 22, 23, 24, 25] rfl rfl rfl (by exact ⟨nR rfl rfl rfl rfl rfl (by exact ovE (mv rfl) (congrArg Value.bool hb2297)), nR rfl rfl rfl rfl rfl (by exact ovE (mv rfl) rfl), nW rfl rfl rfl rfl rfl rfl rfl rfl (by exact ovE (mv rfl) rfl), nW rfl rfl rfl rfl rfl rfl rfl rfl (by exact ovE (mv rfl) rfl), nW rfl rfl rfl rfl rfl rfl rfl rfl (by exact ovE (ixV rfl rfl Tryd.runUnderlying74 Tryd.sizeOf3 hr2225.wk (fun _ => rfl) rfl hk2292) rfl), nW rfl rfl rfl rfl rfl rfl rfl rfl (by exact ovE (ldV0 rfl hr2225.wk (fun _ => rfl) hk2292 rfl Tryd.isAgg3) rfl), nW rfl rfl rfl rfl rfl rfl rfl rfl (by exact ovE (mv rfl) rfl), nW rfl rfl rfl rfl rfl rfl rfl rfl (by exact ovE (bin rfl rfl rfl) (congrArg Value.bool hb2299)), nW rfl rfl rfl rfl rfl rfl rfl rfl (by exact ovE (mv rfl) rfl), nW rfl rfl rfl rfl rfl rfl rfl rfl (by exact ovE (mv rfl) rfl), nW rfl rfl rfl rfl rfl rfl rfl rfl (by exact ovE (mv rfl) rfl), nW rfl rfl rfl rfl rfl rfl rfl rfl (by exact ovE (ixV rfl rfl Tryd.runUnderlying74 Tryd.sizeOf3 hr2230.wk (fun _ => rfl) rfl hk2301) rfl), nW rfl rfl rfl rfl rfl rfl rfl rfl (by exact ovE (ldV0 rfl hr2230.wk (fun _ => rfl) hk2301 rfl Tryd.isAgg3) rfl), nW rfl rfl rfl rfl rfl rfl rfl rfl (by exact ovE (mv rfl) rfl), nW rfl rfl rfl rfl rfl rfl rfl rfl (by exact ovE (mv rfl) rfl), nW rfl rfl rfl rfl rfl rfl rfl rfl (by exact ovE (ixV rfl rfl Tryd.runUnderlying74 Tryd.sizeOf3 hr2225.wk (fun _ => rfl) rfl hk2292) rfl), nW rfl rfl rfl rfl rfl rfl rfl rfl (by exact ovE (ldV0 rfl hr2225.wk (fun _ => rfl) hk2292 rfl Tryd.isAgg3) rfl), nW rfl rfl rfl rfl rfl rfl rfl rfl (by exact ovE (mv rfl) rfl), nW rfl rfl rfl rfl rfl rfl rfl rfl (by exact ovE (bin rfl rfl rfl) rfl), nW rfl rfl rfl rfl rfl rfl rfl rfl (by exact ovE (cvi rfl Tryd.runUnderlying3 Tryd.runUnderlying28) rfl), nW rfl rfl rfl rfl rfl rfl rfl rfl (by exact ovE (shr rfl rfl hk2303) rfl), nW rfl rfl rfl rfl rfl rfl rfl rfl (by exact ovE (mv rfl) rfl), nW rfl rfl rfl rfl rfl rfl rfl rfl (by exact ovE (bin rfl rfl rfl) rfl), nW rfl rfl rfl rfl rfl rfl rfl rfl (by exact ovE (pk rfl rfl rfl) rfl), nR rfl rfl rfl rfl rfl (by exact ovE (pk rfl rfl rfl) rfl), nR rfl rfl rfl rfl rfl (by exact ovE (asg rfl) (congrArg (Value.bool) hz2305.symm)), trivial⟩) (fun a w hS => ?_) ho hcl (fun m hm => (List.not_mem_nil hm).elim) hA hst
                    replace hS := hS.env2 (e' := [(0, .slice A2223 l_2222.length c2224), (1, .slice A2228 codes2227.length c2229), (2, ptr b2233 0), (8, .int .i64 r2232.At_), (9, .int .i64 v2284), (10, .int .i64 length2285), (11, .bool begins2304), (12, .int .i64 i2289)]) ⟨rfl, rfl, rfl, rfl, rfl, rfl, rfl, rfl, trivial⟩
                    refine blk_n (then_n ?_)
                    refine wp_region_list ?_
                    refine st1 hS (mv rfl) rfl fun a w hS => ?_
                    refine st1 hS (bin rfl rfl rfl) rfl fun a w hS => ?_
                    refine st1x (v := Value.int .i64) hS (asg rfl) rfl fun i2306 a w hz hS => ?_
                    have hM := lt_to hz hM; clear hz
                    refine wpList_nil ?_
                    refine then_n ?_
                    exact hJ2308 _ _ ⟨begins2304, i2306, hS.to [0] (by kernel_rfl) ⟨rfl, rfl, rfl, rfl, rfl, rfl, rfl, rfl, trivial⟩, hM⟩
                  · refine draw_begin (vals := [some (.bool false), some (.bool false), some (.slice A2223 l_2222.length c2224), some (.int .i64 i2289), some (slp A2223 (Int.toNat i2289 * 1)), some (.int .i64 (rd l_2222 i2289)), some (.int .i64 length2285), some (.bool false), some (.bool false), some (undef), some (undef), some (undef), some (undef), some (undef), some (undef), some (undef), some (undef), some (undef), some (undef), some (undef), some (undef), some (undef), some (undef), some (.bool false), some (.bool false), some (.bool false)]) hS mixed rfl ?_
                    intro l w ho hcl hA hst
                    refine phaseE (vals := [some (.bool false), some (.bool false), some (.slice A2223 l_2222.length c2224), some (.int .i64 i2289), some (slp A2223 (Int.toNat i2289 * 1)), some (.int .i64 (rd l_2222 i2289)), some (.int .i64 length2285), some (.bool false), some (.bool false), some (undef), some (undef), some (undef), some (undef), some (undef), some (undef), some (undef), some (undef), some (undef), some (undef), some (undef), some (undef), some (undef), some (undef), some (.bool false), some (.bool false), some (.bool false)]) [] [0, 1, 2, 3, 4, 5, 6, 7, 8, 9, 10, 11, 12, 13, 14, 15, 16, 17, 18, 19, 20, 21, 22, 23, 24, 25] rfl rfl rfl (by exact ⟨nR rfl rfl rfl rfl rfl (by exact ovE (mv rfl) (congrArg Value.bool hb2297)), nR rfl rfl rfl rfl rfl (by exact ovE (mv rfl) rfl), nW rfl rfl rfl rfl rfl rfl rfl rfl (by exact ovE (mv rfl) rfl), nW rfl rfl rfl rfl rfl rfl rfl rfl (by exact ovE (mv rfl) rfl), nW rfl rfl rfl rfl rfl rfl rfl rfl (by exact ovE (ixV rfl rfl Tryd.runUnderlying74 Tryd.sizeOf3 hr2225.wk (fun _ => rfl) rfl hk2292) rfl), nW rfl rfl rfl rfl rfl rfl rfl rfl (by exact ovE (ldV0 rfl hr2225.wk (fun _ => rfl) hk2292 rfl Tryd.isAgg3) rfl), nW rfl rfl rfl rfl rfl rfl rfl rfl (by exact ovE (mv rfl) rfl), nW rfl rfl rfl rfl rfl rfl rfl rfl (by exact ovE (bin rfl rfl rfl) (congrArg Value.bool hb2299)), nW rfl rfl rfl rfl rfl rfl rfl rfl (by exact ovE (mv rfl) rfl), nS rfl rfl rfl rfl rfl rfl rfl rfl rfl, nS rfl rfl rfl rfl rfl rfl rfl rfl rfl, nS rfl rfl rfl rfl rfl rfl rfl rfl rfl, nS rfl rfl rfl rfl rfl rfl rfl rfl rfl, nS rfl rfl rfl rfl rfl rfl rfl rfl rfl, nS rfl rfl rfl rfl rfl rfl rfl rfl rfl, nS rfl rfl rfl rfl rfl rfl rfl rfl rfl, nS rfl rfl rfl rfl rfl rfl rfl rfl rfl, nS rfl rfl rfl rfl rfl rfl rfl rfl rfl, nS rfl rfl rfl rfl rfl rfl rfl rfl rfl, nS rfl rfl rfl rfl rfl rfl rfl rfl rfl, nS rfl rfl rfl rfl rfl rfl rfl rfl rfl, nS rfl rfl rfl rfl rfl rfl rfl rfl rfl, nS rfl rfl rfl rfl rfl rfl rfl rfl rfl, nW rfl rfl rfl rfl rfl rfl rfl rfl (by exact ovE (pk rfl rfl rfl) rfl), nR rfl rfl rfl rfl rfl (by exact ovE (pk rfl rfl rfl) rfl), nR rfl rfl rfl rfl rfl (by exact ovE (asg rfl) rfl), trivial⟩) (fun a w hS => ?_) ho hcl (fun m hm => (List.not_mem_nil hm).elim) hA hst
                    replace hS := hS.env2 (e' := [(0, .slice A2223 l_2222.length c2224), (1, .slice A2228 codes2227.length c2229), (2, ptr b2233 0), (8, .int .i64 r2232.At_), (9, .int .i64 v2284), (10, .int .i64 length2285), (11, .bool false), (12, .int .i64 i2289)]) ⟨rfl, rfl, rfl, rfl, rfl, rfl, rfl, rfl, trivial⟩
                    refine blk_n (then_n ?_)
                    refine wp_region_list ?_
                    refine st1 hS (mv rfl) rfl fun a w hS => ?_
                    refine st1 hS (bin rfl rfl rfl) rfl fun a w hS => ?_
                    refine st1x (v := Value.int .i64) hS (asg rfl) rfl fun i2307 a w hz hS => ?_
                    have hM := lt_to hz hM; clear hz
                    refine wpList_nil ?_
                    refine then_n ?_
                    exact hJ2308 _ _ ⟨false, i2307, hS.to [0] (by kernel_rfl) ⟨rfl, rfl, rfl, rfl, rfl, rfl, rfl, rfl, trivial⟩, hM⟩
            · refine wp_exit ?_
              refine then_ex (then_ex (blk_same (then_n ?_)))
              exact hJ2310 _ _ ⟨begins2288, hS.to [0] (by kernel_rfl) ⟨rfl, rfl, rfl, rfl, rfl, rfl, rfl, trivial⟩, hM⟩
        · intro a w hI
          obtain ⟨begins2309, hS, hM⟩ := hI
          rw [mortiseref06_Next.j3] at hM
          refine wp_seq ?_
          refine wp_seq ?_
          refine wp_region_list ?_
          refine st1 hS (mv rfl) rfl fun a w hS => ?_
          refine st1 hS (un rfl rfl) rfl fun a w hS => ?_
          refine wpList_nil ?_
          refine then_n ?_
          refine s_cond hS rfl hM (fun hb2311 hM => ?_) (fun hb2311 hM => ?_)
          · refine wp_seq ?_
            refine wp_region_list ?_
            refine st1 hS (mv rfl) rfl fun a w hS => ?_
            refine st1 hS (mv rfl) rfl fun a w hS => ?_
            refine st1 hS (nck rfl) rfl fun a w hS => ?_
            refine st1 hS (fad rfl Tryd.runUnderlying57 rfl Tryd.sizeOf3 rfl) rfl fun a w hS => ?_
            refine sto 0 ([str r2232.S_, .int .i64 r2232.At_]) hS rfl rfl hB2283 rfl rfl rfl rfl Tryd.sizeOf3 fun w f2312 hB2313 hS => ?_
            refine wpList_nil ?_
            refine then_n ?_
            refine wp_seq ?_
            refine wp_region_list ?_
            refine st1 hS (asg rfl) rfl fun a w hS => ?_
            refine st1 hS (asg rfl) rfl fun a w hS => ?_
            refine wpList_nil ?_
            refine then_n ?_
            refine wp_ret ?_
            refine then_ret (blk_ret (then_ret (then_ret (blk_ret (then_ret ?_)))))
            exact s_ret (rs := [6, 7]) hS rfl rfl (hret (0 : Int) (3 : Int) r2232.At_ f2312 w hM hB2313 (hS.st.pick [0] (by kernel_rfl)))
          · refine wp_skip ?_
            refine then_n ?_
            refine wp_seq ?_
            refine wp_region_list ?_
            refine st1 hS (mv rfl) rfl fun a w hS => ?_
            refine s_call hS rfl Tryd.call46 (mortiseref05_Reader_Bits_c hG K (T_mortiseref05_Reader.mk r2232.S_ at_2281) (1 : Int) b2233 f2282 hB2283 (hS.st.part 1 [0] (by kernel_rfl)) (wp_bind hM) (fun x2314 x2315 at_2316 f2317 w hM h2318 hst => s_back hS.ev hst.appF rfl fun hS => ?_))
            replace hS : Ss _ _ _ H [f2317] F _ _ := hS
            refine st1 hS (mv rfl) rfl fun a w hS => ?_
            refine st1 hS (ex rfl rfl) rfl fun a w hS => ?_
            refine st1 hS (ex rfl rfl) rfl fun a w hS => ?_
            refine st1 hS (asg rfl) rfl fun a w hS => ?_
            refine st1 hS (asg rfl) rfl fun a w hS => ?_
            refine wpList_nil ?_
            refine then_n ?_
            refine wp_seq ?_
            refine wp_seq ?_
            refine wp_region_list ?_
            refine st1 hS (mv rfl) rfl fun a w hS => ?_
            refine st1 hS (bin rfl rfl rfl) rfl fun a w hS => ?_
            refine wpList_nil ?_
            refine then_n ?_
            refine s_cond hS rfl hM (fun hb2319 hM => ?_) (fun hb2319 hM => ?_)
            · refine wp_seq ?_
              refine wp_region_list ?_
              refine st1 hS (mv rfl) rfl fun a w hS => ?_
              refine st1 hS (mv rfl) rfl fun a w hS => ?_
              refine st1 hS (nck rfl) rfl fun a w hS => ?_
              refine st1 hS (fad rfl Tryd.runUnderlying57 rfl Tryd.sizeOf3 rfl) rfl fun a w hS => ?_
              refine sto 0 ([str r2232.S_, .int .i64 r2232.At_]) hS rfl rfl h2318 rfl rfl rfl rfl Tryd.sizeOf3 fun w f2320 hB2321 hS => ?_
              refine wpList_nil ?_
              refine then_n ?_
              refine wp_seq ?_
              refine wp_region_list ?_
              refine st1 hS (mv rfl) rfl fun a w hS => ?_
              refine st1 hS (asg rfl) rfl fun a w hS => ?_
              refine st1 hS (asg rfl) rfl fun a w hS => ?_
              refine wpList_nil ?_
              refine then_n ?_
              refine wp_ret ?_
              refine then_ret (blk_ret (then_ret (then_ret (blk_ret (then_ret ?_)))))
              exact s_ret (rs := [6, 7]) hS rfl rfl (hret (0 : Int) x2315 r2232.At_ f2320 w hM hB2321 (hS.st.pick [0] (by kernel_rfl)))
            · refine wp_skip ?_
              refine then_n ?_
              refine wp_region_list ?_
              refine st1 hS (mv rfl) rfl fun a w hS => ?_
              refine st1 hS (bin rfl rfl rfl) rfl fun a w hS => ?_
              refine st1 hS (mv rfl) rfl fun a w hS => ?_
              refine st1 hS (cvi rfl Tryd.runUnderlying37 Tryd.runUnderlying3) rfl fun a w hS => ?_
              refine st1 hS (bin rfl rfl rfl) rfl fun a w hS => ?_
              refine st1x (v := Value.int .i64) hS (asg rfl) rfl fun v2322 a w hz hS => ?_
              have hM := lt_to hz hM; clear hz
              refine wpList_nil ?_
              refine blk_n (then_n ?_)
              refine wp_region_list ?_
              refine st1 hS (mv rfl) rfl fun a w hS => ?_
              refine st1 hS (bin rfl rfl rfl) rfl fun a w hS => ?_
              refine st1x (v := Value.int .i64) hS (asg rfl) rfl fun length2323 a w hz hS => ?_
              have hM := lt_to hz hM; clear hz
              refine wpList_nil ?_
              refine then_n ?_
              exact hJ2324 _ _ ⟨at_2316, f2317, v2322, length2323, hS.to [0] (by kernel_rfl) ⟨rfl, rfl, rfl, rfl, rfl, rfl, trivial⟩, h2318, hM⟩
      · refine wp_exit ?_
        refine then_ex (then_ex (blk_same (then_n ?_)))
        exact hJ2328 _ _ ⟨at_2281, f2282, hS.to [0] (by kernel_rfl) ⟨rfl, rfl, trivial⟩, hB2283, hM⟩
  · intro a w hI
    obtain ⟨at_2325, f2326, hS, hB2327, hM⟩ := hI
    rw [mortiseref06_Next.j4] at hM
    refine wp_seq ?_
    refine wp_region_list ?_
    refine st1 hS (mv rfl) rfl fun a w hS => ?_
    refine st1 hS (mv rfl) rfl fun a w hS => ?_
    refine st1 hS (nck rfl) rfl fun a w hS => ?_
    refine st1 hS (fad rfl Tryd.runUnderlying57 rfl Tryd.sizeOf3 rfl) rfl fun a w hS => ?_
    refine sto 0 ([str r2232.S_, .int .i64 r2232.At_]) hS rfl rfl hB2327 rfl rfl rfl rfl Tryd.sizeOf3 fun w f2329 hB2330 hS => ?_
    refine wpList_nil ?_
    refine then_n ?_
    refine wp_seq ?_
    refine wp_region_list ?_
    refine st1 hS (asg rfl) rfl fun a w hS => ?_
    refine st1 hS (asg rfl) rfl fun a w hS => ?_
    refine wpList_nil ?_
    refine then_n ?_
    refine wp_ret ?_
    exact s_ret (rs := [6, 7]) hS rfl rfl (hret (0 : Int) (3 : Int) r2232.At_ f2329 w hM hB2330 (hS.st.pick [0] (by kernel_rfl)))

theorem mortiseref07_Length_c {H : Imm} {F : List Frag} {w : World} {R : Ending → World → Prop} {kr : (Int × Int) → Prop} {kp : Value → Prop} (hG : Gl H) (K : Nat) (symbol2382 : Int)
    (hS : St w H [] F) (hm : (mortiseref07_Length.m K symbol2382).wp kr kp)
    (hret : ∀ (x2390 : Int) (x2391 : Int) (w : World), kr (x2390, x2391) → St w H [] F → R (.returned (.tuple ⟨[.int .i64 x2390, .int .i64 x2391]⟩)) w) :
    Calls Tryd.prog 58 ⟨[.int .i64 symbol2382]⟩ w R := by
  refine enter Tryd.func58 rfl Tryd.ntmps58 rfl hS fun a w hS => ?_
  have hM := hm; clear hm
  rw [mortiseref07_Length.m] at hM
  refine wp_seq ?_
  refine wp_region_list ?_
  refine st1 hS (asg rfl) rfl fun a w hS => ?_
  refine st1 hS (asg rfl) rfl fun a w hS => ?_
  refine wpList_nil ?_
  refine then_n ?_
  refine wp_seq ?_
  refine wp_seq ?_
  refine wp_region_list ?_
  refine st1 hS (mv rfl) rfl fun a w hS => ?_
  refine st1 hS (bin rfl rfl rfl) rfl fun a w hS => ?_
  refine wpList_nil ?_
  refine then_n ?_
  refine s_cond hS rfl hM (fun hb2383 hM => ?_) (fun hb2383 hM => ?_)
  · refine wp_seq ?_
    refine wp_region_list ?_
    refine st1 hS (asg rfl) rfl fun a w hS => ?_
    refine st1 hS (asg rfl) rfl fun a w hS => ?_
    refine wpList_nil ?_
    refine then_n ?_
    refine wp_ret ?_
    refine then_ret ?_
    exact s_ret (rs := [2, 3]) hS rfl rfl (hret (258 : Int) (0 : Int) w hM (hS.st.pick [] (by kernel_rfl)))
  · refine wp_skip ?_
    refine then_n ?_
    refine wp_seq ?_
    refine wp_region_list ?_
    refine st1 hS (mv rfl) rfl fun a w hS => ?_
    refine st1 hS (bin rfl rfl rfl) rfl fun a w hS => ?_
    refine st1x (v := Value.int .i64) hS (asg rfl) rfl fun k_2384 a w hz hS => ?_
    have hM := lt_to hz hM; clear hz
    refine wpList_nil ?_
    refine then_n ?_
    refine wp_seq ?_
    refine wp_seq ?_
    refine wp_region_list ?_
    refine st1 hS (mv rfl) rfl fun a w hS => ?_
    refine st1 hS (bin rfl rfl rfl) rfl fun a w hS => ?_
    refine wpList_nil ?_
    refine then_n ?_
    refine s_cond hS rfl hM (fun hb2385 hM => ?_) (fun hb2385 hM => ?_)
    · refine wp_seq ?_
      refine wp_region_list ?_
      refine st1 hS (mv rfl) rfl fun a w hS => ?_
      refine st1 hS (bin rfl rfl rfl) rfl fun a w hS => ?_
      refine st1x (v := Value.int .i64) hS (asg rfl) rfl fun v2386 a w hz hS => ?_
      have hM := lt_to hz hM; clear hz
      refine st1 hS (asg rfl) rfl fun a w hS => ?_
      refine wpList_nil ?_
      refine then_n ?_
      refine wp_ret ?_
      refine then_ret ?_
      exact s_ret (rs := [2, 3]) hS rfl rfl (hret v2386 (0 : Int) w hM (hS.st.pick [] (by kernel_rfl)))
    · refine wp_skip ?_
      refine then_n ?_
      refine wp_seq ?_
      refine wp_region_list ?_
      refine st1 hS (mv rfl) rfl fun a w hS => ?_
      refine st1 hS (quo rfl rfl rfl) rfl fun a w hS => ?_
      refine st1 hS (bin rfl rfl rfl) rfl fun a w hS => ?_
      refine st1x (v := Value.int .i64) hS (asg rfl) rfl fun more2387 a w hz hS => ?_
      have hM := lt_to hz hM; clear hz
      refine wpList_nil ?_
      refine then_n ?_
      refine wp_seq ?_
      refine wp_region_list ?_
      refine st1 hS (mv rfl) rfl fun a w hS => ?_
      refine st1 hS (rem rfl rfl rfl) rfl fun a w hS => ?_
      refine st1 hS (bin rfl rfl rfl) rfl fun a w hS => ?_
      refine st1 hS (mv rfl) rfl fun a w hS => ?_
      refine st1 hS (cvi rfl Tryd.runUnderlying3 Tryd.runUnderlying28) rfl fun a w hS => ?_
      obtain ⟨hk2388, hM⟩ := wp_chk hM
      refine st1 hS (shl rfl rfl hk2388) rfl fun a w hS => ?_
      refine st1 hS (bin rfl rfl rfl) rfl fun a w hS => ?_
      refine st1 hS (mv rfl) rfl fun a w hS => ?_
      refine st1x (v := Value.int .i64) hS (asg rfl) rfl fun v2389 a w hz hS => ?_
      have hM := lt_to hz hM; clear hz
      refine st1 hS (asg rfl) rfl fun a w hS => ?_
      refine wpList_nil ?_
      refine then_n ?_
      refine wp_ret ?_
      exact s_ret (rs := [2, 3]) hS rfl rfl (hret v2389 more2387 w hM (hS.st.pick [] (by kernel_rfl)))

theorem mortiseref07_Distance_c {H : Imm} {F : List Frag} {w : World} {R : Ending → World → Prop} {kr : (Int × Int) → Prop} {kp : Value → Prop} (hG : Gl H) (K : Nat) (symbol2407 : Int)
    (hS : St w H [] F) (hm : (mortiseref07_Distance.m K symbol2407).wp kr kp)
    (hret : ∀ (x2413 : Int) (x2414 : Int) (w : World), kr (x2413, x2414) → St w H [] F → R (.returned (.tuple ⟨[.int .i64 x2413, .int .i64 x2414]⟩)) w) :
    Calls Tryd.prog 59 ⟨[.int .i64 symbol2407]⟩ w R := by
  refine enter Tryd.func59 rfl Tryd.ntmps59 rfl hS fun a w hS => ?_
  have hM := hm; clear hm
  rw [mortiseref07_Distance.m] at hM
  refine wp_seq ?_
  refine wp_region_list ?_
  refine st1 hS (asg rfl) rfl fun a w hS => ?_
  refine st1 hS (asg rfl) rfl fun a w hS => ?_
  refine wpList_nil ?_
  refine then_n ?_
  refine wp_seq ?_
  refine wp_seq ?_
  refine wp_region_list ?_
  refine st1 hS (mv rfl) rfl fun a w hS => ?_
  refine st1 hS (bin rfl rfl rfl) rfl fun a w hS => ?_
  refine wpList_nil ?_
  refine then_n ?_
  refine s_cond hS rfl hM (fun hb2408 hM => ?_) (fun hb2408 hM => ?_)
  · refine wp_seq ?_
    refine wp_region_list ?_
    refine st1 hS (mv rfl) rfl fun a w hS => ?_
    refine st1 hS (bin rfl rfl rfl) rfl fun a w hS => ?_
    refine st1x (v := Value.int .i64) hS (asg rfl) rfl fun v2409 a w hz hS => ?_
    have hM := lt_to hz hM; clear hz
    refine st1 hS (asg rfl) rfl fun a w hS => ?_
    refine wpList_nil ?_
    refine then_n ?_
    refine wp_ret ?_
    refine then_ret ?_
    exact s_ret (rs := [2, 3]) hS rfl rfl (hret v2409 (0 : Int) w hM (hS.st.pick [] (by kernel_rfl)))
  · refine wp_skip ?_
    refine then_n ?_
    refine wp_seq ?_
    refine wp_region_list ?_
    refine st1 hS (mv rfl) rfl fun a w hS => ?_
    refine st1 hS (quo rfl rfl rfl) rfl fun a w hS => ?_
    refine st1 hS (bin rfl rfl rfl) rfl fun a w hS => ?_
    refine st1x (v := Value.int .i64) hS (asg rfl) rfl fun more2410 a w hz hS => ?_
    have hM := lt_to hz hM; clear hz
    refine wpList_nil ?_
    refine then_n ?_
    refine wp_seq ?_
    refine wp_region_list ?_
    refine st1 hS (mv rfl) rfl fun a w hS => ?_
    refine st1 hS (rem rfl rfl rfl) rfl fun a w hS => ?_
    refine st1 hS (bin rfl rfl rfl) rfl fun a w hS => ?_
    refine st1 hS (mv rfl) rfl fun a w hS => ?_
    refine st1 hS (cvi rfl Tryd.runUnderlying3 Tryd.runUnderlying28) rfl fun a w hS => ?_
    obtain ⟨hk2411, hM⟩ := wp_chk hM
    refine st1 hS (shl rfl rfl hk2411) rfl fun a w hS => ?_
    refine st1 hS (bin rfl rfl rfl) rfl fun a w hS => ?_
    refine st1 hS (mv rfl) rfl fun a w hS => ?_
    refine st1x (v := Value.int .i64) hS (asg rfl) rfl fun v2412 a w hz hS => ?_
    have hM := lt_to hz hM; clear hz
    refine st1 hS (asg rfl) rfl fun a w hS => ?_
    refine wpList_nil ?_
    refine then_n ?_
    refine wp_ret ?_
    exact s_ret (rs := [2, 3]) hS rfl rfl (hret v2412 more2410 w hM (hS.st.pick [] (by kernel_rfl)))
end Go.TrydS
