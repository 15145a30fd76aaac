/- Printed by a program of mine: each Go function answers what its model answers; conditions: what each theorem asks of memory. -/
import Derived.Test.YtfjejpdilghhpaaDoorP1xfgadb
set_option linter.unusedVariables false
set_option linter.unusedSimpArgs false
namespace Go.TrydS
open Go Go.Sl Go.Mo Go.Proofs
theorem inflate_reader_dynamic_c {H : Imm} {F : List Frag} {w : World} {R : Ending → World → Prop} {kr : ((Option T_huff_Table) × (Option T_huff_Table) × Int) → Prop} {kp : Value → Prop} (hG : Gl H) (K : Nat) (r1224 : T_inflate_reader) (b1225 : Nat) (f1226 : Frag) (b1228 : Nat) (f1229 : Frag) (A1231 : Option Addr) (c1232 : Nat) (f1233 : Frag) (hB1227 : Blk f1226 b1225 ([ptr b1228 0, .slice A1231 r1224.out_.length c1232, .int .i64 r1224.limit_]) 44) (hB1230 : Blk f1229 b1228 ([.int .i64 r1224.Reader_.place_.at_, str r1224.Reader_.text_]) 57) (hV1234 : Vec 5 (ci .u8) 1 A1231 r1224.out_ c1232 f1233)
    (hS : St w H [f1226, f1229, f1233] F) (hm : (inflate_reader_dynamic.m K r1224).wp kr kp)
    (hret : ∀ (A1555 : Option Addr) (x1556 : Option T_huff_Table) (f1557 : Frag) (A1559 : Option Addr) (x1560 : Option T_huff_Table) (f1561 : Frag) (at_1563 : Int) (f1564 : Frag) (w : World), kr (x1556, x1560, at_1563) → (Opt T_huff_Table.Own A1555 x1556 f1557) → (Opt T_huff_Table.Own A1559 x1560 f1561) → (Blk f1564 b1228 ([.int .i64 at_1563, str r1224.Reader_.text_]) 57) → St w H [f1557, f1561, f1226, f1564, f1233] F → R (.returned (.tuple ⟨[.pointer A1555, .pointer A1559]⟩)) w)
    (hpan : ∀ v w, kp v → St w H [] F → R (.panicked [⟨v, false, false⟩]) w) :
    Calls Tryd.prog 25 ⟨[ptr b1225 0]⟩ w R := by
  refine enter Tryd.func25 rfl Tryd.ntmps25 rfl hS fun a w hS => ?_
  have hM := hm; clear hm
  rw [inflate_reader_dynamic.m] at hM
  refine wp_seq ?_
  refine wp_region_list ?_
  refine st1 hS (asg rfl) rfl fun a w hS => ?_
  refine st1 hS (asg rfl) rfl fun a w hS => ?_
  refine wpList_nil ?_
  refine then_n ?_
  refine wp_seq ?_
  refine wp_region_list ?_
  refine st1 hS (mv rfl) rfl fun a w hS => ?_
  refine s_call hS rfl Tryd.call21 (inflate_reader_number_c hG K r1224 (5 : Int) b1225 f1226 b1228 f1229 A1231 c1232 f1233 hB1227 hB1230 hV1234 (hS.st.part 3 [0, 1, 2] (by kernel_rfl)) (wp_bind hM) (fun x1235 at_1236 f1237 w hM h1238 hst => s_back hS.ev hst.appF rfl fun hS => ?_) (fun v w hk hst => s_pan (then_pan (⟨hS.ev.defs, hpan _ _ hk hst.appF.frame⟩))))
  replace hS : Ss _ _ _ H [f1226, f1237, f1233] F _ _ := hS
  refine st1 hS (bin rfl rfl rfl) rfl fun a w hS => ?_
  refine st1 hS (mv rfl) rfl fun a w hS => ?_
  refine s_call hS rfl Tryd.call21 (inflate_reader_number_c hG K (T_inflate_reader.mk (T_bits_Reader.mk (T_bits_place.mk at_1236) r1224.Reader_.text_) r1224.out_ r1224.limit_) (5 : Int) b1225 f1226 b1228 f1237 A1231 c1232 f1233 hB1227 h1238 hV1234 (hS.st.part 3 [0, 1, 2] (by kernel_rfl)) (wp_bind hM) (fun x1239 at_1240 f1241 w hM h1242 hst => s_back hS.ev hst.appF rfl fun hS => ?_) (fun v w hk hst => s_pan (then_pan (⟨hS.ev.defs, hpan _ _ hk hst.appF.frame⟩))))
  replace hS : Ss _ _ _ H [f1226, f1241, f1233] F _ _ := hS
  refine st1 hS (bin rfl rfl rfl) rfl fun a w hS => ?_
  refine st1x (v := Value.int .i64) hS (asg rfl) rfl fun n_1243 a w hz hS => ?_
  have hM := lt_to hz hM; clear hz
  refine st1x (v := Value.int .i64) hS (asg rfl) rfl fun d1244 a w hz hS => ?_
  have hM := lt_to hz hM; clear hz
  refine wpList_nil ?_
  refine then_n ?_
  refine wp_seq ?_
  refine wp_region_list ?_
  refine st1 hS (mv rfl) rfl fun a w hS => ?_
  refine s_call hS rfl Tryd.call21 (inflate_reader_number_c hG K (T_inflate_reader.mk (T_bits_Reader.mk (T_bits_place.mk at_1240) r1224.Reader_.text_) r1224.out_ r1224.limit_) (4 : Int) b1225 f1226 b1228 f1241 A1231 c1232 f1233 hB1227 h1242 hV1234 (hS.st.part 3 [0, 1, 2] (by kernel_rfl)) (wp_bind hM) (fun x1245 at_1246 f1247 w hM h1248 hst => s_back hS.ev hst.appF rfl fun hS => ?_) (fun v w hk hst => s_pan (then_pan (⟨hS.ev.defs, hpan _ _ hk hst.appF.frame⟩))))
  replace hS : Ss _ _ _ H [f1226, f1247, f1233] F _ _ := hS
  refine st1 hS (bin rfl rfl rfl) rfl fun a w hS => ?_
  refine st1x (v := Value.int .i64) hS (asg rfl) rfl fun some_1249 a w hz hS => ?_
  have hM := lt_to hz hM; clear hz
  refine wpList_nil ?_
  refine then_n ?_
  refine wp_seq ?_
  refine wp_region_list ?_
  refine st1 hS (mv rfl) rfl fun a w hS => ?_
  refine st1 hS (bin rfl rfl rfl) rfl fun a w hS => ?_
  refine st1 hS (mv rfl) rfl fun a w hS => ?_
  refine g_op 2 false 22 (b := (decide (n_1243 > (286 : Int)))) (r := (decide (d1244 > (30 : Int)))) hS rfl rfl rfl rfl rfl rfl rfl (fun hb a w hS K hK => ?_) rfl fun a w hS => ?_
  · refine st1g hS rfl rfl rfl hb (mv rfl) rfl fun a w hS => ?_
    refine st1g hS rfl rfl rfl hb (bin rfl rfl rfl) rfl fun a w hS => ?_
    exact wpList_nil (hK _ _ (hS.up 2 rfl rfl))
  refine s_call hS rfl Tryd.call26 (inflate_refuse_c hG K ((decide (n_1243 > (286 : Int))) || (decide (d1244 > (30 : Int)))) (3 : Int) (hS.st.part 0 [0, 1, 2] (by kernel_rfl)) (wp_bind hM) (fun  w hM  hst => s_back hS.ev hst.appF rfl fun hS => ?_) (fun v w hk hst => s_pan (then_pan (⟨hS.ev.defs, hpan _ _ hk hst.appF.frame⟩))))
  replace hS : Ss _ _ _ H [f1226, f1247, f1233] F _ _ := hS
  refine wpList_nil ?_
  refine then_n ?_
  refine wp_seq ?_
  refine wp_region_list ?_
  refine alc ((List.replicate 19 (0 : Int)).flatMap (ci .i64)) hS Tryd.zeroValue89 rfl rfl fun w b1250 f1251 hB1252 hS => ?_
  refine wpList_nil ?_
  refine then_n ?_
  refine seq_joinJ (fun a w => ∃ (at_1299 : Int) (f1300 : Frag) (l_1302 : (List Int)) (f1304 : Frag), Ss 64 [] [(0, ptr b1225 0), (4, .int .i64 n_1243), (5, .int .i64 d1244), (7, ptr b1250 0)] H [f1226, f1300, f1233, f1304] F a w ∧ (Blk f1300 b1228 ([.int .i64 at_1299, str r1224.Reader_.text_]) 57) ∧ (l_1302.length = 19) ∧ (Blk f1304 b1250 (l_1302.flatMap (ci .i64)) 89) ∧ (inflate_reader_dynamic.j2 K r1224 n_1243 d1244 at_1299 l_1302).wp kr kp) (fun J1306 hJ1306 => ?_) ?_
  · refine wp_seq ?_
    refine wp_region_list ?_
    refine st1 hS (ldGAr rfl hG.g2 (by rfl) Tryd.isAgg89 Tryd.sizeOf89) rfl fun a w hS => ?_
    refine st1 hS (mv rfl) rfl fun a w hS => ?_
    refine wpList_nil ?_
    refine then_n ?_
    refine wp_block ?_
    refine s_loopJ (fun k1284 a w => ∃ (at_1276 : Int) (f1277 : Frag) (l_1279 : (List Int)) (f1281 : Frag) (v1283 : Int), Ss 64 [] [(0, ptr b1225 0), (4, .int .i64 n_1243), (5, .int .i64 d1244), (6, .int .i64 some_1249), (7, ptr b1250 0), (27, .agg ⟨tab_inflate_order.flatMap (ci .i64)⟩), (28, .int .i64 v1283)] H [f1226, f1277, f1233, f1281] F a w ∧ (Blk f1277 b1228 ([.int .i64 at_1276, str r1224.Reader_.text_]) 57) ∧ (l_1279.length = 19) ∧ (Blk f1281 b1250 (l_1279.flatMap (ci .i64)) 89) ∧ (inflate_reader_dynamic.l1 K r1224 n_1243 d1244 some_1249 k1284 at_1276 l_1279 v1283).wp kr kp) K ?_ ?_ ?_
    · exact ⟨at_1246, f1247, (List.replicate 19 (0 : Int)), f1251, (0 : Int), hS.to [1, 2, 3, 0] (by kernel_rfl) ⟨rfl, rfl, rfl, rfl, rfl, rfl, rfl, trivial⟩, h1248, (List.length_replicate ..), hB1252, hM⟩
    · intro a w hI; obtain ⟨_, _, _, _, _, _, _, _, _, hM⟩ := hI; exact hM
    · intro k1284 a w hI J1298 hJ1298
      obtain ⟨at_1276, f1277, l_1279, f1281, v1283, hS, hB1278, hl1280, hB1282, hM⟩ := hI
      rw [inflate_reader_dynamic.l1] at hM
      refine wp_seq ?_
      refine wp_region_list ?_
      refine st1 hS (bin rfl rfl rfl) rfl fun a w hS => ?_
      refine wpList_nil ?_
      refine then_n ?_
      refine wp_seq ?_
      refine s_cond hS rfl hM (fun hb1285 hM => ?_) (fun hb1285 hM => ?_)
      · refine wp_skip ?_
        refine then_n ?_
        refine wp_seq ?_
        refine wp_block ?_
        refine wp_seq ?_
        refine wp_region_list ?_
        refine st1 hS (mv rfl) rfl fun a w hS => ?_
        obtain ⟨hk1286, hM⟩ := wp_chk hM
        refine st1 hS (ixA rfl rfl Tryd.runUnderlying89 Tryd.isAgg3 Tryd.sizeOf3 (fun _ => rfl) tab_inflate_order_len hk1286 rfl) rfl fun a w hS => ?_
        refine st1 hS (asg rfl) rfl fun a w hS => ?_
        refine st1x (v := Value.int .i64) hS (asg rfl) rfl fun s1287 a w hz hS => ?_
        have hM := lt_to hz hM; clear hz
        refine wpList_nil ?_
        refine then_n ?_
        refine wp_seq ?_
        refine wp_region_list ?_
        refine st1 hS (mv rfl) rfl fun a w hS => ?_
        refine st1 hS (mv rfl) rfl fun a w hS => ?_
        refine st1 hS (bin rfl rfl rfl) rfl fun a w hS => ?_
        refine wpList_nil ?_
        refine then_n ?_
        refine s_cond hS rfl hM (fun hb1288 hM => ?_) (fun hb1288 hM => ?_)
        · refine wp_region_list ?_
          refine st1 hS (mv rfl) rfl fun a w hS => ?_
          refine st1 hS (mv rfl) rfl fun a w hS => ?_
          refine s_call hS rfl Tryd.call21 (inflate_reader_number_c hG K (T_inflate_reader.mk (T_bits_Reader.mk (T_bits_place.mk at_1276) r1224.Reader_.text_) r1224.out_ r1224.limit_) (3 : Int) b1225 f1226 b1228 f1277 A1231 c1232 f1233 hB1227 hB1278 hV1234 (hS.st.part 3 [0, 1, 2, 3] (by kernel_rfl)) (wp_bind hM) (fun x1289 at_1290 f1291 w hM h1292 hst => s_back hS.ev hst.appF rfl fun hS => ?_) (fun v w hk hst => s_pan (blk_pan (then_pan (then_pan (blk_pan (then_pan (⟨hS.ev.defs, hpan _ _ hk hst.appF.frame⟩))))))))
          replace hS : Ss _ _ _ H [f1226, f1291, f1233, f1281] F _ _ := hS
          obtain ⟨hk1293, hM⟩ := wp_chk hM
          refine st1 hS (ixB rfl rfl Tryd.runUnderlying89 Tryd.sizeOf3 hk1293) rfl fun a w hS => ?_
          refine stR (xs := l_1279) (g := (ci .i64)) (pre := []) (post := []) 3 (x1289) hS rfl rfl hB1282 rfl (by simp) rfl (fun _ => rfl) (inb_len hl1280 hk1293) rfl Tryd.sizeOf3 (one_t3 _) fun zs1296 w f1294 hz hB1295 hS => ?_
          have hl1297 : zs1296.length = 19 := by rw [hz, List.length_set]; exact hl1280
          have hM := lt_to hz hM; clear hz
          replace hB1295 : Blk f1294 b1250 (zs1296.flatMap (ci .i64)) 89 := by simpa using hB1295
          refine wpList_nil ?_
          refine blk_n (then_n ?_)
          refine wp_region_list ?_
          refine st1 hS (bin rfl rfl rfl) rfl fun a w hS => ?_
          refine st1 hS (mv rfl) rfl fun a w hS => ?_
          refine wpList_nil ?_
          refine then_n ?_
          exact hJ1298 _ _ ⟨at_1290, f1291, zs1296, f1294, (w64 (v1283 + (1 : Int))), hS.to [0, 1, 2, 3] (by kernel_rfl) ⟨rfl, rfl, rfl, rfl, rfl, rfl, rfl, trivial⟩, h1292, hl1297, hB1295, hM⟩
        · refine wp_skip ?_
          refine blk_n (then_n ?_)
          refine wp_region_list ?_
          refine st1 hS (bin rfl rfl rfl) rfl fun a w hS => ?_
          refine st1 hS (mv rfl) rfl fun a w hS => ?_
          refine wpList_nil ?_
          refine then_n ?_
          exact hJ1298 _ _ ⟨at_1276, f1277, l_1279, f1281, (w64 (v1283 + (1 : Int))), hS.to [0, 1, 2, 3] (by kernel_rfl) ⟨rfl, rfl, rfl, rfl, rfl, rfl, rfl, trivial⟩, hB1278, hl1280, hB1282, hM⟩
      · refine wp_exit ?_
        refine then_ex (then_ex (blk_same (then_n ?_)))
        exact hJ1306 _ _ ⟨at_1276, f1277, l_1279, f1281, hS.to [0, 1, 2, 3] (by kernel_rfl) ⟨rfl, rfl, rfl, rfl, trivial⟩, hB1278, hl1280, hB1282, hM⟩
  · intro a w hI
    obtain ⟨at_1299, f1300, l_1302, f1304, hS, hB1301, hl1303, hB1305, hM⟩ := hI
    rw [inflate_reader_dynamic.j2] at hM
    refine wp_seq ?_
    refine wp_region_list ?_
    refine st1 hS (ldAr (xs := l_1302) (g := (ci .i64)) (pre := []) (post := []) 3 rfl hB1305 rfl (by simp) rfl (flat_ln (g := (ci .i64)) (sz := 1) (fun _ => rfl) hl1303) Tryd.isAgg89 Tryd.sizeOf89) rfl fun a w hS => ?_
    refine st1 hS (bldAr (([0, 0, 0, 0, 0, 0, 0, 0, 0, 0, 0, 0, 0, 0, 0, 0, 0, 0, 0] : List Int).flatMap (ci .i64)) Tryd.zeroValue89 Tryd.runUnderlying89 Tryd.sizeOf3 rfl (by kernel_rfl)) rfl fun a w hS => ?_
    refine st1 hS (eqArr rfl rfl Tryd.runUnderlying89 Tryd.runUnderlying3 Tryd.sizeOf3 Tryd.isAgg3 hl1303 rfl Tryd.eqGuardType89 rfl) rfl fun a w hS => ?_
    refine s_call hS rfl Tryd.call26 (inflate_refuse_c hG K (l_1302 == ([0, 0, 0, 0, 0, 0, 0, 0, 0, 0, 0, 0, 0, 0, 0, 0, 0, 0, 0] : List Int)) (3 : Int) (hS.st.part 0 [0, 1, 2, 3] (by kernel_rfl)) (wp_bind hM) (fun  w hM  hst => s_back hS.ev hst.appF rfl fun hS => ?_) (fun v w hk hst => s_pan (then_pan (⟨hS.ev.defs, hpan _ _ hk hst.appF.frame⟩))))
    replace hS : Ss _ _ _ H [f1226, f1300, f1233, f1304] F _ _ := hS
    refine wpList_nil ?_
    refine then_n ?_
    refine wp_seq ?_
    refine wp_region_list ?_
    refine st1 hS (mv rfl) rfl fun a w hS => ?_
    refine st1 hS (mv rfl) rfl fun a w hS => ?_
    refine st1 hS (mv rfl) rfl fun a w hS => ?_
    refine st1 hS (bin rfl rfl rfl) rfl fun a w hS => ?_
    refine st1 hS (slA rfl Tryd.runUnderlying89 Tryd.sizeOf3 hl1303 rfl) rfl fun a w hS => ?_
    refine s_call hS rfl Tryd.call38 (inflate_table_c hG K l_1302 (some ⟨b1250, 0, none⟩) (19) (hB1305.rdF (i := 3) rfl rfl) (Nat.le_of_eq hl1303) (hS.st.part 0 [0, 1, 2, 3] (by kernel_rfl)) (wp_bind hM) (fun A1307 x1308 f1309 w hM h1310 hst => s_back hS.ev hst.appF rfl fun hS => ?_) (fun v w hk hst => s_pan (then_pan (⟨hS.ev.defs, hpan _ _ hk hst.appF.frame⟩))))
    replace hS : Ss _ _ _ H [f1309, f1226, f1300, f1233, f1304] F _ _ := hS
    obtain ⟨x1311, ho1312, hM⟩ := wp_unw hM
    obtain ⟨b1313, hA, hO1321⟩ := h1310.get ho1312
    obtain ⟨f1314, A1317, c1318, f1319, hF, hB1315, hl1316, hV1320⟩ := hO1321
    subst hA; subst hF
    replace hS := hS.front [0, 1, 2, 3, 4] (by kernel_rfl)
    replace hS := hS.splitF
    refine s_call hS rfl Tryd.call39 (inflate_reader_row_c hG K (T_inflate_reader.mk (T_bits_Reader.mk (T_bits_place.mk at_1299) r1224.Reader_.text_) r1224.out_ r1224.limit_) (w64 (n_1243 + d1244)) x1311 b1225 f1226 b1228 f1300 A1231 c1232 f1233 b1313 f1314 A1317 c1318 f1319 hB1227 hB1301 hV1234 hB1315 hl1316 hV1320 (hS.st.part 5 [2, 3, 4, 0, 1, 5] (by kernel_rfl)) (wp_bind hM) (fun A1524 c1525 x1526 f1527 at_1528 f1529 w hM h1530 h1531 hst => s_back hS.ev hst.appF rfl fun hS => ?_) (fun v w hk hst => s_pan (then_pan (⟨hS.ev.defs, hpan _ _ hk hst.appF.frame⟩))))
    replace hS : Ss _ _ _ H [f1527, f1314, f1319, f1226, f1529, f1233, f1304] F _ _ := hS
    refine st1 hS (asg rfl) rfl fun a w hS => ?_
    refine wpList_nil ?_
    refine then_n ?_
    refine wp_seq ?_
    refine wp_region_list ?_
    refine st1 hS (mv rfl) rfl fun a w hS => ?_
    obtain ⟨hk1532, hM⟩ := wp_chk hM
    refine st1 hS (ixV rfl rfl Tryd.runUnderlying67 Tryd.sizeOf3 (h1530.rd (i := 0) rfl) (fun _ => rfl) rfl hk1532) rfl fun a w hS => ?_
    refine st1 hS (ldV0 rfl (h1530.rd (i := 0) rfl) (fun _ => rfl) hk1532 rfl Tryd.isAgg3) rfl fun a w hS => ?_
    refine st1 hS (bin rfl rfl rfl) rfl fun a w hS => ?_
    refine s_call hS rfl Tryd.call26 (inflate_refuse_c hG K ((rd x1526 (256 : Int)) == (0 : Int)) (3 : Int) (hS.st.part 0 [0, 1, 2, 3, 4, 5, 6] (by kernel_rfl)) (wp_bind hM) (fun  w hM  hst => s_back hS.ev hst.appF rfl fun hS => ?_) (fun v w hk hst => s_pan (then_pan (⟨hS.ev.defs, hpan _ _ hk hst.appF.frame⟩))))
    replace hS : Ss _ _ _ H [f1527, f1314, f1319, f1226, f1529, f1233, f1304] F _ _ := hS
    refine wpList_nil ?_
    refine then_n ?_
    refine wp_seq ?_
    obtain ⟨hk1533, hM⟩ := wp_chk hM
    obtain ⟨zs1534, A1535, c1536, hz, hd1537, hc1538, hov1539⟩ := slEx (g := (ci .i64)) (A := A1524) Tryd.prog Tryd.runUnderlying67 Tryd.sizeOf3 (fun _ => rfl) (h1530.cap (fun _ => rfl) rfl) hk1533
    replace hM := lt_to hz hM; clear hz
    obtain ⟨hk1540, hM⟩ := wp_chk hM
    obtain ⟨zs1541, A1542, c1543, hz, hd1544, hc1545, hov1546⟩ := slEx (g := (ci .i64)) (A := A1524) Tryd.prog Tryd.runUnderlying67 Tryd.sizeOf3 (fun _ => rfl) (h1530.cap (fun _ => rfl) rfl) hk1540
    replace hM := lt_to hz hM; clear hz
    refine draw_begin (vals := [some (.slice A1524 x1526.length c1525), some (.int .i64 n_1243), some (.slice A1535 zs1534.length c1536), none, some (.slice A1524 x1526.length c1525), some (.int .i64 n_1243), some (.slice A1542 zs1541.length c1543), none, none, none]) hS mixed rfl ?_
    intro l w ho hcl hA hst
    refine phase' (vals := [some (.slice A1524 x1526.length c1525), some (.int .i64 n_1243), some (.slice A1535 zs1534.length c1536), none, some (.slice A1524 x1526.length c1525), some (.int .i64 n_1243), some (.slice A1542 zs1541.length c1543), none, none, none]) 3 [] [0, 1, 2, 4, 5, 6] rfl rfl rfl rfl (by exact ⟨nR rfl rfl rfl rfl rfl (by exact ovE (mv rfl) rfl), nR rfl rfl rfl rfl rfl (by exact ovE (mv rfl) rfl), nR rfl rfl rfl rfl rfl (by exact ovE (hov1539 rfl lo0 (hiS rfl)) rfl), nR rfl rfl rfl rfl rfl (by exact ovE (mv rfl) rfl), nR rfl rfl rfl rfl rfl (by exact ovE (mv rfl) rfl), nR rfl rfl rfl rfl rfl (by exact ovE (hov1546 rfl (loS rfl) hi0) rfl), trivial⟩) (fun D l a w ho hcl hav hpre hm hE hk hA hst => ?_) ho hcl (fun j hj => (List.not_mem_nil hj).elim) (fun m hm => (List.not_mem_nil hm).elim) List.not_mem_nil hA hst
    have hS := (Ss.mk hE hst).env2 (e' := [(58, .slice A1535 zs1534.length c1536)]) ⟨rfl, trivial⟩
    refine op_of_nth rfl ?_
    refine s_call hS rfl Tryd.call38 (inflate_table_c hG K zs1534 A1535 c1536 (hd1537 _ _ _ (h1530.rdF (i := 0) rfl)) hc1538 (hS.st.part 0 [0, 1, 2, 3, 4, 5, 6] (by kernel_rfl)) (wp_bind hM) (fun A1547 x1548 f1549 w hM h1550 hst => s_back hS.ev hst.appF rfl fun hS => ?_) (fun v w hk hst => s_pan (then_pan (then_pan (⟨hS.ev.defs, hpan _ _ hk hst.appF.frame⟩)))))
    replace hS : Ss _ _ _ H [f1549, f1527, f1314, f1319, f1226, f1529, f1233, f1304] F _ _ := hS
    refine wpList_nil (then_n ?_)
    have hcl2 := hcl.cons (k := 3) (nth_get rfl) hpre
    have hmust := must_cons (k := 3) hm (chain (k := 3) hcl (nth_get rfl) hpre [(2, 3), (0, 2), (1, 2)] [] rfl (fun _ h => absurd h List.not_mem_nil))
    replace hst := hS.st
    have hav2 := hav.cons (vals' := [some (.slice A1524 x1526.length c1525), some (.int .i64 n_1243), some (.slice A1535 zs1534.length c1536), some (.pointer A1547), some (.slice A1524 x1526.length c1525), some (.int .i64 n_1243), some (.slice A1542 zs1541.length c1543), none, none, none]) (k := 3) ⟨rfl, rfl, rfl, rfl, rfl, rfl, trivial⟩ rfl
    replace hA := (hA.next hav (subV.get (l' := [some (.slice A1524 x1526.length c1525), some (.int .i64 n_1243), some (.slice A1535 zs1534.length c1536), some (.pointer A1547), some (.slice A1524 x1526.length c1525), some (.int .i64 n_1243), some (.slice A1542 zs1541.length c1543), none, none, none]) ⟨rfl, rfl, rfl, rfl, rfl, rfl, trivial⟩)).step rfl (nth_get rfl) hk rfl rfl rfl
    clear hm hav
    replace hcl := hcl2
    refine phase' (vals := [some (.slice A1524 x1526.length c1525), some (.int .i64 n_1243), some (.slice A1535 zs1534.length c1536), some (.pointer A1547), some (.slice A1524 x1526.length c1525), some (.int .i64 n_1243), some (.slice A1542 zs1541.length c1543), none, none, none]) 7 [3, 2, 0, 1] [4, 5, 6] rfl rfl rfl rfl (by exact ⟨nR rfl rfl rfl rfl rfl (by exact ovE (mv rfl) rfl), nR rfl rfl rfl rfl rfl (by exact ovE (mv rfl) rfl), nR rfl rfl rfl rfl rfl (by exact ovE (hov1546 rfl (loS rfl) hi0) rfl), trivial⟩) (fun D l a w ho hcl hav hpre hm hE hk hA hst => ?_) ho hcl hav2 hmust (hav2.notin rfl) hA hst
    have hS := (Ss.mk hE hst).env2 (e' := [(62, .slice A1542 zs1541.length c1543)]) ⟨rfl, trivial⟩
    refine op_of_nth rfl ?_
    refine s_call hS rfl Tryd.call38 (inflate_table_c hG K zs1541 A1542 c1543 (hd1544 _ _ _ (h1530.rdF (i := 1) rfl)) hc1545 (hS.st.part 0 [0, 1, 2, 3, 4, 5, 6, 7] (by kernel_rfl)) (wp_bind hM) (fun A1551 x1552 f1553 w hM h1554 hst => s_back hS.ev hst.appF rfl fun hS => ?_) (fun v w hk hst => s_pan (then_pan (then_pan (⟨hS.ev.defs, hpan _ _ hk hst.appF.frame⟩)))))
    replace hS : Ss _ _ _ H [f1553, f1549, f1527, f1314, f1319, f1226, f1529, f1233, f1304] F _ _ := hS
    refine wpList_nil (then_n ?_)
    have hcl2 := hcl.cons (k := 7) (nth_get rfl) hpre
    have hmust := must_cons (k := 7) hm (chain (k := 7) hcl (nth_get rfl) hpre [(3, 7), (6, 7), (2, 3), (4, 6), (5, 6), (0, 2), (1, 2)] [] rfl (fun _ h => absurd h List.not_mem_nil))
    replace hst := hS.st
    have hav2 := hav.cons (vals' := [some (.slice A1524 x1526.length c1525), some (.int .i64 n_1243), some (.slice A1535 zs1534.length c1536), some (.pointer A1547), some (.slice A1524 x1526.length c1525), some (.int .i64 n_1243), some (.slice A1542 zs1541.length c1543), some (.pointer A1551), some (.pointer A1547), some (.pointer A1551)]) (k := 7) ⟨rfl, rfl, rfl, rfl, rfl, rfl, rfl, trivial⟩ rfl
    replace hA := (hA.next hav (subV.get (l' := [some (.slice A1524 x1526.length c1525), some (.int .i64 n_1243), some (.slice A1535 zs1534.length c1536), some (.pointer A1547), some (.slice A1524 x1526.length c1525), some (.int .i64 n_1243), some (.slice A1542 zs1541.length c1543), some (.pointer A1551), some (.pointer A1547), some (.pointer A1551)]) ⟨rfl, rfl, rfl, rfl, rfl, rfl, rfl, trivial⟩)).step rfl (nth_get rfl) hk rfl rfl rfl
    clear hm hav
    replace hcl := hcl2
    refine phaseE (vals := [some (.slice A1524 x1526.length c1525), some (.int .i64 n_1243), some (.slice A1535 zs1534.length c1536), some (.pointer A1547), some (.slice A1524 x1526.length c1525), some (.int .i64 n_1243), some (.slice A1542 zs1541.length c1543), some (.pointer A1551), some (.pointer A1547), some (.pointer A1551)]) [7, 3, 6, 2, 4, 5, 0, 1, 3, 2, 0, 1] [8, 9] rfl rfl rfl (by exact ⟨nR rfl rfl rfl rfl rfl (by exact ovE (asg rfl) rfl), nR rfl rfl rfl rfl rfl (by exact ovE (asg rfl) rfl), trivial⟩) (fun a w hS => ?_) ho hcl hmust hA hst
    replace hS := hS.env2 (e' := [(2, .pointer A1547), (3, .pointer A1551)]) ⟨rfl, rfl, trivial⟩
    refine then_n ?_
    refine wp_ret ?_
    exact s_ret (rs := [2, 3]) hS rfl rfl (hret A1547 x1548 f1549 A1551 x1552 f1553 at_1528 f1529 w hM h1550 h1554 h1531 (hS.st.pick [1, 0, 5, 6, 7] (by kernel_rfl)))

theorem inflate_reader_block_c {H : Imm} {F : List Frag} {w : World} {R : Ending → World → Prop} {kr : (Bool × Int × (List Int)) → Prop} {kp : Value → Prop} (hG : Gl H) (K : Nat) (r257 : T_inflate_reader) (b258 : Nat) (f259 : Frag) (b261 : Nat) (f262 : Frag) (A264 : Option Addr) (c265 : Nat) (f266 : Frag) (hB260 : Blk f259 b258 ([ptr b261 0, .slice A264 r257.out_.length c265, .int .i64 r257.limit_]) 44) (hB263 : Blk f262 b261 ([.int .i64 r257.Reader_.place_.at_, str r257.Reader_.text_]) 57) (hV267 : Vec 5 (ci .u8) 1 A264 r257.out_ c265 f266)
    (hS : St w H [f259, f262, f266] F) (hm : (inflate_reader_block.m K r257).wp kr kp)
    (hret : ∀ (x1609 : Bool) (at_1610 : Int) (f1611 : Frag) (A1613 : Option Addr) (c1614 : Nat) (out1615 : (List Int)) (f1616 : Frag) (f1618 : Frag) (w : World), kr (x1609, at_1610, out1615) → (Blk f1611 b261 ([.int .i64 at_1610, str r257.Reader_.text_]) 57) → (Vec 5 (ci .u8) 1 A1613 out1615 c1614 f1616) → (Blk f1618 b258 ([ptr b261 0, .slice A1613 out1615.length c1614, .int .i64 r257.limit_]) 44) → St w H [f1618, f1611, f1616] F → R (.returned (.bool x1609)) w)
    (hpan : ∀ v w, kp v → St w H [] F → R (.panicked [⟨v, false, false⟩]) w) :
    Calls Tryd.prog 18 ⟨[ptr b258 0]⟩ w R := by
  refine enter Tryd.func18 rfl Tryd.ntmps18 rfl hS fun a w hS => ?_
  have hM := hm; clear hm
  rw [inflate_reader_block.m] at hM
  refine wp_seq ?_
  refine wp_region_list ?_
  refine st1 hS (asg rfl) rfl fun a w hS => ?_
  refine wpList_nil ?_
  refine then_n ?_
  refine wp_seq ?_
  refine wp_region_list ?_
  refine st1 hS (mv rfl) rfl fun a w hS => ?_
  refine s_call hS rfl Tryd.call21 (inflate_reader_number_c hG K r257 (1 : Int) b258 f259 b261 f262 A264 c265 f266 hB260 hB263 hV267 (hS.st.part 3 [0, 1, 2] (by kernel_rfl)) (wp_bind hM) (fun x325 at_326 f327 w hM h328 hst => s_back hS.ev hst.appF rfl fun hS => ?_) (fun v w hk hst => s_pan (then_pan (⟨hS.ev.defs, hpan _ _ hk hst.appF.frame⟩))))
  replace hS : Ss _ _ _ H [f259, f327, f266] F _ _ := hS
  refine st1 hS (bin rfl rfl rfl) rfl fun a w hS => ?_
  refine st1x (v := Value.bool) hS (asg rfl) rfl fun last329 a w hz hS => ?_
  have hM := lt_to hz hM; clear hz
  refine wpList_nil ?_
  refine then_n ?_
  refine wp_seq ?_
  refine wp_seq ?_
  refine wp_region_list ?_
  refine st1 hS (mv rfl) rfl fun a w hS => ?_
  refine s_call hS rfl Tryd.call21 (inflate_reader_number_c hG K (T_inflate_reader.mk (T_bits_Reader.mk (T_bits_place.mk at_326) r257.Reader_.text_) r257.out_ r257.limit_) (2 : Int) b258 f259 b261 f327 A264 c265 f266 hB260 h328 hV267 (hS.st.part 3 [0, 1, 2] (by kernel_rfl)) (wp_bind hM) (fun x330 at_331 f332 w hM h333 hst => s_back hS.ev hst.appF rfl fun hS => ?_) (fun v w hk hst => s_pan (then_pan (then_pan (⟨hS.ev.defs, hpan _ _ hk hst.appF.frame⟩)))))
  replace hS : Ss _ _ _ H [f259, f332, f266] F _ _ := hS
  refine wpList_nil ?_
  refine then_n ?_
  refine wp_block ?_
  refine wp_seq ?_
  refine wp_region_list ?_
  refine st1 hS (bin rfl rfl rfl) rfl fun a w hS => ?_
  refine st1x (v := Value.bool) hS (asg rfl) rfl fun v334 a w hz hS => ?_
  have hM := lt_to hz hM; clear hz
  refine wpList_nil ?_
  refine then_n ?_
  refine s_cond hS rfl hM (fun hb335 hM => ?_) (fun hb335 hM => ?_)
  · refine wp_region_list ?_
    refine st1 hS (mv rfl) rfl fun a w hS => ?_
    refine s_call hS rfl Tryd.call22 (inflate_reader_stored_c hG K (T_inflate_reader.mk (T_bits_Reader.mk (T_bits_place.mk at_331) r257.Reader_.text_) r257.out_ r257.limit_) b258 f259 b261 f332 A264 c265 f266 hB260 h333 hV267 (hS.st.part 3 [0, 1, 2] (by kernel_rfl)) (wp_bind hM) (fun at_420 f421 A422 c423 out424 f425 f426 w hM h427 h428 h429 hst => s_back hS.ev hst.appF rfl fun hS => ?_) (fun v w hk hst => s_pan (blk_pan (then_pan (⟨hS.ev.defs, hpan _ _ hk hst.appF.frame⟩)))))
    replace hS : Ss _ _ _ H [f426, f421, f425] F _ _ := hS
    refine wpList_nil ?_
    refine blk_n (then_n ?_)
    refine wp_seq ?_
    refine wp_region_list ?_
    refine st1 hS (mv rfl) rfl fun a w hS => ?_
    refine st1 hS (asg rfl) rfl fun a w hS => ?_
    refine wpList_nil ?_
    refine then_n ?_
    refine wp_ret ?_
    exact s_ret (rs := [2]) hS rfl rfl (hret last329 at_420 f421 A422 c423 out424 f425 f426 w hM h427 h428 h429 (hS.st.pick [0, 1, 2] (by kernel_rfl)))
  · refine wp_seq ?_
    refine wp_region_list ?_
    refine st1 hS (bin rfl rfl rfl) rfl fun a w hS => ?_
    refine st1x (v := Value.bool) hS (asg rfl) rfl fun v430 a w hz hS => ?_
    have hM := lt_to hz hM; clear hz
    refine wpList_nil ?_
    refine then_n ?_
    refine s_cond hS rfl hM (fun hb431 hM => ?_) (fun hb431 hM => ?_)
    · refine wp_region_list ?_
      refine st1 hS (mv rfl) rfl fun a w hS => ?_
      refine s_call hS rfl Tryd.call24 (inflate_fixed_c hG K  (hS.st.part 0 [0, 1, 2] (by kernel_rfl)) (wp_bind hM) (fun A810 x811 f812 A813 x814 f815 w hM h816 h817 hst => s_back hS.ev hst.appF rfl fun hS => ?_) (fun v w hk hst => s_pan (blk_pan (then_pan (⟨hS.ev.defs, hpan _ _ hk hst.appF.frame⟩)))))
      replace hS : Ss _ _ _ H [f812, f815, f259, f332, f266] F _ _ := hS
      refine st1 hS (ex rfl rfl) rfl fun a w hS => ?_
      refine st1 hS (ex rfl rfl) rfl fun a w hS => ?_
      obtain ⟨x818, ho819, hM⟩ := wp_unw hM
      obtain ⟨b820, hA, hO828⟩ := h816.get ho819
      obtain ⟨f821, A824, c825, f826, hF, hB822, hl823, hV827⟩ := hO828
      subst hA; subst hF
      replace hS := hS.front [0, 1, 2, 3, 4] (by kernel_rfl)
      replace hS := hS.splitF
      obtain ⟨x829, ho830, hM⟩ := wp_unw hM
      obtain ⟨b831, hA, hO839⟩ := h817.get ho830
      obtain ⟨f832, A835, c836, f837, hF, hB833, hl834, hV838⟩ := hO839
      subst hA; subst hF
      replace hS := hS.front [2, 0, 1, 3, 4, 5] (by kernel_rfl)
      replace hS := hS.splitF
      refine s_call hS rfl Tryd.call23 (inflate_reader_symbols_c hG K (T_inflate_reader.mk (T_bits_Reader.mk (T_bits_place.mk at_331) r257.Reader_.text_) r257.out_ r257.limit_) x818 x829 b258 f259 b261 f332 A264 c265 f266 b820 f821 A824 c825 f826 b831 f832 A835 c836 f837 hB260 h333 hV267 hB822 hl823 hV827 hB833 hl834 hV838 (hS.st.part 7 [4, 5, 6, 2, 3, 0, 1] (by kernel_rfl)) (wp_bind hM) (fun at_1212 f1213 A1214 c1215 out1216 f1217 f1218 w hM h1219 h1220 h1221 hst => s_back hS.ev hst.appF rfl fun hS => ?_) (fun v w hk hst => s_pan (blk_pan (then_pan (⟨hS.ev.defs, hpan _ _ hk hst.appF.frame⟩)))))
      replace hS : Ss _ _ _ H [f832, f837, f821, f826, f1218, f1213, f1217] F _ _ := hS
      refine wpList_nil ?_
      refine blk_n (then_n ?_)
      refine wp_seq ?_
      refine wp_region_list ?_
      refine st1 hS (mv rfl) rfl fun a w hS => ?_
      refine st1 hS (asg rfl) rfl fun a w hS => ?_
      refine wpList_nil ?_
      refine then_n ?_
      refine wp_ret ?_
      exact s_ret (rs := [2]) hS rfl rfl (hret last329 at_1212 f1213 A1214 c1215 out1216 f1217 f1218 w hM h1219 h1220 h1221 (hS.st.pick [4, 5, 6] (by kernel_rfl)))
    · refine wp_seq ?_
      refine wp_region_list ?_
      refine st1 hS (bin rfl rfl rfl) rfl fun a w hS => ?_
      refine st1x (v := Value.bool) hS (asg rfl) rfl fun v1222 a w hz hS => ?_
      have hM := lt_to hz hM; clear hz
      refine wpList_nil ?_
      refine then_n ?_
      refine s_cond hS rfl hM (fun hb1223 hM => ?_) (fun hb1223 hM => ?_)
      · refine wp_region_list ?_
        refine st1 hS (mv rfl) rfl fun a w hS => ?_
        refine st1 hS (mv rfl) rfl fun a w hS => ?_
        refine s_call hS rfl Tryd.call25 (inflate_reader_dynamic_c hG K (T_inflate_reader.mk (T_bits_Reader.mk (T_bits_place.mk at_331) r257.Reader_.text_) r257.out_ r257.limit_) b258 f259 b261 f332 A264 c265 f266 hB260 h333 hV267 (hS.st.part 3 [0, 1, 2] (by kernel_rfl)) (wp_bind hM) (fun A1566 x1567 f1568 A1569 x1570 f1571 at_1572 f1573 w hM h1574 h1575 h1576 hst => s_back hS.ev hst.appF rfl fun hS => ?_) (fun v w hk hst => s_pan (blk_pan (then_pan (⟨hS.ev.defs, hpan _ _ hk hst.appF.frame⟩)))))
        replace hS : Ss _ _ _ H [f1568, f1571, f259, f1573, f266] F _ _ := hS
        refine st1 hS (ex rfl rfl) rfl fun a w hS => ?_
        refine st1 hS (ex rfl rfl) rfl fun a w hS => ?_
        obtain ⟨x1577, ho1578, hM⟩ := wp_unw hM
        obtain ⟨b1579, hA, hO1587⟩ := h1574.get ho1578
        obtain ⟨f1580, A1583, c1584, f1585, hF, hB1581, hl1582, hV1586⟩ := hO1587
        subst hA; subst hF
        replace hS := hS.front [0, 1, 2, 3, 4] (by kernel_rfl)
        replace hS := hS.splitF
        obtain ⟨x1588, ho1589, hM⟩ := wp_unw hM
        obtain ⟨b1590, hA, hO1598⟩ := h1575.get ho1589
        obtain ⟨f1591, A1594, c1595, f1596, hF, hB1592, hl1593, hV1597⟩ := hO1598
        subst hA; subst hF
        replace hS := hS.front [2, 0, 1, 3, 4, 5] (by kernel_rfl)
        replace hS := hS.splitF
        refine s_call hS rfl Tryd.call23 (inflate_reader_symbols_c hG K (T_inflate_reader.mk (T_bits_Reader.mk (T_bits_place.mk at_1572) r257.Reader_.text_) r257.out_ r257.limit_) x1577 x1588 b258 f259 b261 f1573 A264 c265 f266 b1579 f1580 A1583 c1584 f1585 b1590 f1591 A1594 c1595 f1596 hB260 h1576 hV267 hB1581 hl1582 hV1586 hB1592 hl1593 hV1597 (hS.st.part 7 [4, 5, 6, 2, 3, 0, 1] (by kernel_rfl)) (wp_bind hM) (fun at_1599 f1600 A1601 c1602 out1603 f1604 f1605 w hM h1606 h1607 h1608 hst => s_back hS.ev hst.appF rfl fun hS => ?_) (fun v w hk hst => s_pan (blk_pan (then_pan (⟨hS.ev.defs, hpan _ _ hk hst.appF.frame⟩)))))
        replace hS : Ss _ _ _ H [f1591, f1596, f1580, f1585, f1605, f1600, f1604] F _ _ := hS
        refine wpList_nil ?_
        refine blk_n (then_n ?_)
        refine wp_seq ?_
        refine wp_region_list ?_
        refine st1 hS (mv rfl) rfl fun a w hS => ?_
        refine st1 hS (asg rfl) rfl fun a w hS => ?_
        refine wpList_nil ?_
        refine then_n ?_
        refine wp_ret ?_
        exact s_ret (rs := [2]) hS rfl rfl (hret last329 at_1599 f1600 A1601 c1602 out1603 f1604 f1605 w hM h1606 h1607 h1608 (hS.st.pick [4, 5, 6] (by kernel_rfl)))
      · refine wp_region_list ?_
        refine s_call hS rfl Tryd.call26 (inflate_refuse_c hG K true (3 : Int) (hS.st.part 0 [0, 1, 2] (by kernel_rfl)) (wp_bind hM) (fun  w hM  hst => s_back hS.ev hst.appF rfl fun hS => ?_) (fun v w hk hst => s_pan (blk_pan (then_pan (⟨hS.ev.defs, hpan _ _ hk hst.appF.frame⟩)))))
        replace hS : Ss _ _ _ H [f259, f332, f266] F _ _ := hS
        refine wpList_nil ?_
        refine blk_n (then_n ?_)
        refine wp_seq ?_
        refine wp_region_list ?_
        refine st1 hS (mv rfl) rfl fun a w hS => ?_
        refine st1 hS (asg rfl) rfl fun a w hS => ?_
        refine wpList_nil ?_
        refine then_n ?_
        refine wp_ret ?_
        exact s_ret (rs := [2]) hS rfl rfl (hret last329 at_331 f332 A264 c265 r257.out_ f266 f259 w hM h333 hV267 hB260 (hS.st.pick [0, 1, 2] (by kernel_rfl)))

theorem mortiseref05_Reader_Bits_c {H : Imm} {F : List Frag} {w : World} {R : Ending → World → Prop} {kr : (Int × Int × Int) → Prop} {kp : Value → Prop} (hG : Gl H) (K : Nat) (r1644 : T_mortiseref05_Reader) (n_1648 : Int) (b1645 : Nat) (f1646 : Frag) (hB1647 : Blk f1646 b1645 ([str r1644.S_, .int .i64 r1644.At_]) 49)
    (hS : St w H [f1646] F) (hm : (mortiseref05_Reader_Bits.m K r1644 n_1648).wp kr kp)
    (hret : ∀ (x1667 : Int) (x1668 : Int) (at_1669 : Int) (f1670 : Frag) (w : World), kr (x1667, x1668, at_1669) → (Blk f1670 b1645 ([str r1644.S_, .int .i64 at_1669]) 49) → St w H [f1670] F → R (.returned (.tuple ⟨[.int .u32 x1667, .int .i64 x1668]⟩)) w) :
    Calls Tryd.prog 40 ⟨[ptr b1645 0, .int .i64 n_1648]⟩ w R := by
  refine enter Tryd.func40 rfl Tryd.ntmps40 rfl hS fun a w hS => ?_
  have hM := hm; clear hm
  rw [mortiseref05_Reader_Bits.m] at hM
  refine wp_seq ?_
  refine wp_region_list ?_
  refine st1 hS (asg rfl) rfl fun a w hS => ?_
  refine st1 hS (asg rfl) rfl fun a w hS => ?_
  refine wpList_nil ?_
  refine then_n ?_
  refine wp_seq ?_
  refine wp_seq ?_
  refine wp_region_list ?_
  refine st1 hS (mv rfl) rfl fun a w hS => ?_
  refine st1 hS (bin rfl rfl rfl) rfl fun a w hS => ?_
  refine st1 hS (mv rfl) rfl fun a w hS => ?_
  refine g_op 2 false 12 (b := (decide (n_1648 < (0 : Int)))) (r := (decide (n_1648 > (32 : Int)))) hS rfl rfl rfl rfl rfl rfl rfl (fun hb a w hS K hK => ?_) rfl fun a w hS => ?_
  · refine st1g hS rfl rfl rfl hb (mv rfl) rfl fun a w hS => ?_
    refine st1g hS rfl rfl rfl hb (bin rfl rfl rfl) rfl fun a w hS => ?_
    exact wpList_nil (hK _ _ (hS.up 2 rfl rfl))
  refine wpList_nil ?_
  refine then_n ?_
  refine s_cond hS rfl hM (fun hb1649 hM => ?_) (fun hb1649 hM => ?_)
  · refine wp_seq ?_
    refine wp_region_list ?_
    refine st1 hS (asg rfl) rfl fun a w hS => ?_
    refine st1 hS (asg rfl) rfl fun a w hS => ?_
    refine wpList_nil ?_
    refine then_n ?_
    refine wp_ret ?_
    refine then_ret ?_
    exact s_ret (rs := [4, 5]) hS rfl rfl (hret (0 : Int) (1 : Int) r1644.At_ f1646 w hM hB1647 (hS.st.pick [0] (by kernel_rfl)))
  · refine wp_skip ?_
    refine then_n ?_
    refine wp_seq ?_
    refine wp_seq ?_
    refine draw_begin (vals := [some (.int .i64 n_1648), some (ptr b1645 0), some (ptr b1645 0), some (ptr b1645 0), some (str r1644.S_), some (.int .i64 (r1644.S_.length : Int)), some (.int .i64 (w64 ((8 : Int) * (r1644.S_.length : Int)))), some (ptr b1645 0), some (ptr b1645 0), some (ptr b1645 1), some (.int .i64 r1644.At_), some (.int .i64 (w64 ((w64 ((8 : Int) * (r1644.S_.length : Int))) - r1644.At_))), some (.bool (decide (n_1648 > (w64 ((w64 ((8 : Int) * (r1644.S_.length : Int))) - r1644.At_)))))]) hS mixed rfl ?_
    intro l w ho hcl hA hst
    refine phaseE (vals := [some (.int .i64 n_1648), some (ptr b1645 0), some (ptr b1645 0), some (ptr b1645 0), some (str r1644.S_), some (.int .i64 (r1644.S_.length : Int)), some (.int .i64 (w64 ((8 : Int) * (r1644.S_.length : Int)))), some (ptr b1645 0), some (ptr b1645 0), some (ptr b1645 1), some (.int .i64 r1644.At_), some (.int .i64 (w64 ((w64 ((8 : Int) * (r1644.S_.length : Int))) - r1644.At_))), some (.bool (decide (n_1648 > (w64 ((w64 ((8 : Int) * (r1644.S_.length : Int))) - r1644.At_)))))]) [] [0, 1, 2, 3, 4, 5, 6, 7, 8, 9, 10, 11, 12] rfl rfl rfl (by exact ⟨nR rfl rfl rfl rfl rfl (by exact ovE (mv rfl) rfl), nR rfl rfl rfl rfl rfl (by exact ovE (mv rfl) rfl), nR rfl rfl rfl rfl rfl (by exact ovE (nck rfl) rfl), nR rfl rfl rfl rfl rfl (by exact ovE (fad rfl Tryd.runUnderlying49 rfl Tryd.sizeOf9 rfl) rfl), nR rfl rfl rfl rfl rfl (by exact ovE (ldb 0 rfl hB1647 rfl rfl Tryd.isAgg9) rfl), nR rfl rfl rfl rfl rfl (by exact ovE (lenS rfl Tryd.runUnderlying9) rfl), nR rfl rfl rfl rfl rfl (by exact ovE (bin rfl rfl rfl) rfl), nR rfl rfl rfl rfl rfl (by exact ovE (mv rfl) rfl), nR rfl rfl rfl rfl rfl (by exact ovE (nck rfl) rfl), nR rfl rfl rfl rfl rfl (by exact ovE (fad rfl Tryd.runUnderlying49 rfl Tryd.sizeOf3 rfl) rfl), nR rfl rfl rfl rfl rfl (by exact ovE (ldb 0 rfl hB1647 rfl rfl Tryd.isAgg3) rfl), nR rfl rfl rfl rfl rfl (by exact ovE (bin rfl rfl rfl) rfl), nR rfl rfl rfl rfl rfl (by exact ovE (bin rfl rfl rfl) rfl), trivial⟩) (fun a w hS => ?_) ho hcl (fun m hm => (List.not_mem_nil hm).elim) hA hst
    replace hS := hS.env2 (e' := [(0, ptr b1645 0), (1, .int .i64 n_1648), (28, .bool (decide (n_1648 > (w64 ((w64 ((8 : Int) * (r1644.S_.length : Int))) - r1644.At_)))))]) ⟨rfl, rfl, rfl, trivial⟩
    refine then_n ?_
    refine s_cond hS rfl hM (fun hb1650 hM => ?_) (fun hb1650 hM => ?_)
    · refine wp_seq ?_
      refine wp_region_list ?_
      refine st1 hS (asg rfl) rfl fun a w hS => ?_
      refine st1 hS (asg rfl) rfl fun a w hS => ?_
      refine wpList_nil ?_
      refine then_n ?_
      refine wp_ret ?_
      refine then_ret ?_
      exact s_ret (rs := [4, 5]) hS rfl rfl (hret (0 : Int) (2 : Int) r1644.At_ f1646 w hM hB1647 (hS.st.pick [0] (by kernel_rfl)))
    · refine wp_skip ?_
      refine then_n ?_
      refine wp_seq ?_
      refine wp_region_list ?_
      refine st1 hS (asg rfl) rfl fun a w hS => ?_
      refine wpList_nil ?_
      refine then_n ?_
      refine seq_joinJ (fun a w => ∃ (v1663 : Int), Ss 69 [] [(0, ptr b1645 0), (1, .int .i64 n_1648), (6, .int .u32 v1663)] H [f1646] F a w ∧ (mortiseref05_Reader_Bits.j2 K r1644 n_1648 v1663).wp kr kp) (fun J1664 hJ1664 => ?_) ?_
      · refine wp_seq ?_
        refine wp_region_list ?_
        refine st1 hS (asg rfl) rfl fun a w hS => ?_
        refine wpList_nil ?_
        refine then_n ?_
        refine wp_block ?_
        refine s_loopJ (fun k1653 a w => ∃ (v1651 : Int) (i1652 : Int), Ss 69 [] [(0, ptr b1645 0), (1, .int .i64 n_1648), (6, .int .u32 v1651), (7, .int .i64 i1652)] H [f1646] F a w ∧ (mortiseref05_Reader_Bits.l1 K r1644 n_1648 k1653 v1651 i1652).wp kr kp) K ?_ ?_ ?_
        · exact ⟨(0 : Int), (0 : Int), hS.to [0] (by kernel_rfl) ⟨rfl, rfl, rfl, rfl, trivial⟩, hM⟩
        · intro a w hI; obtain ⟨_, _, _, hM⟩ := hI; exact hM
        · intro k1653 a w hI J1662 hJ1662
          obtain ⟨v1651, i1652, hS, hM⟩ := hI
          rw [mortiseref05_Reader_Bits.l1] at hM
          refine wp_seq ?_
          refine wp_seq ?_
          refine wp_region_list ?_
          refine st1 hS (mv rfl) rfl fun a w hS => ?_
          refine st1 hS (mv rfl) rfl fun a w hS => ?_
          refine st1 hS (bin rfl rfl rfl) rfl fun a w hS => ?_
          refine wpList_nil ?_
          refine then_n ?_
          refine s_cond hS rfl hM (fun hb1654 hM => ?_) (fun hb1654 hM => ?_)
          · refine wp_skip ?_
            refine then_n ?_
            refine wp_seq ?_
            refine wp_block ?_
            refine wp_seq ?_
            refine wp_region_list ?_
            refine st1 hS (mv rfl) rfl fun a w hS => ?_
            refine st1 hS (nck rfl) rfl fun a w hS => ?_
            refine st1 hS (fad rfl Tryd.runUnderlying49 rfl Tryd.sizeOf3 rfl) rfl fun a w hS => ?_
            refine st1 hS (ldb 0 rfl hB1647 rfl rfl Tryd.isAgg3) rfl fun a w hS => ?_
            refine st1 hS (mv rfl) rfl fun a w hS => ?_
            refine st1 hS (bin rfl rfl rfl) rfl fun a w hS => ?_
            refine st1x (v := Value.int .i64) hS (asg rfl) rfl fun k_1655 a w hz hS => ?_
            have hM := lt_to hz hM; clear hz
            refine wpList_nil ?_
            refine then_n ?_
            refine wp_seq ?_
            refine wp_region_list ?_
            refine st1 hS (mv rfl) rfl fun a w hS => ?_
            refine st1 hS (nck rfl) rfl fun a w hS => ?_
            refine st1 hS (fad rfl Tryd.runUnderlying49 rfl Tryd.sizeOf9 rfl) rfl fun a w hS => ?_
            refine st1 hS (ldb 0 rfl hB1647 rfl rfl Tryd.isAgg9) rfl fun a w hS => ?_
            refine st1 hS (mv rfl) rfl fun a w hS => ?_
            refine st1 hS (quo rfl rfl rfl) rfl fun a w hS => ?_
            obtain ⟨hk1656, hM⟩ := wp_chk hM
            refine st1 hS (ixs rfl rfl Tryd.runUnderlying9 hk1656) rfl fun a w hS => ?_
            refine st1 hS (cvi rfl Tryd.runUnderlying5 Tryd.runUnderlying33) rfl fun a w hS => ?_
            refine st1 hS (mv rfl) rfl fun a w hS => ?_
            refine st1 hS (rem rfl rfl rfl) rfl fun a w hS => ?_
            refine st1 hS (cvi rfl Tryd.runUnderlying3 Tryd.runUnderlying37) rfl fun a w hS => ?_
            obtain ⟨hk1657, hM⟩ := wp_chk hM
            refine st1 hS (shr rfl rfl hk1657) rfl fun a w hS => ?_
            refine st1 hS (rem rfl rfl rfl) rfl fun a w hS => ?_
            refine st1x (v := Value.int .u32) hS (asg rfl) rfl fun b_1658 a w hz hS => ?_
            have hM := lt_to hz hM; clear hz
            refine wpList_nil ?_
            refine then_n ?_
            refine wp_region_list ?_
            refine st1 hS (mv rfl) rfl fun a w hS => ?_
            refine st1 hS (mv rfl) rfl fun a w hS => ?_
            refine st1 hS (mv rfl) rfl fun a w hS => ?_
            refine st1 hS (cvi rfl Tryd.runUnderlying3 Tryd.runUnderlying37) rfl fun a w hS => ?_
            obtain ⟨hk1659, hM⟩ := wp_chk hM
            refine st1 hS (shl rfl rfl hk1659) rfl fun a w hS => ?_
            refine st1 hS (bin rfl rfl rfl) rfl fun a w hS => ?_
            refine st1x (v := Value.int .u32) hS (asg rfl) rfl fun v1660 a w hz hS => ?_
            have hM := lt_to hz hM; clear hz
            refine wpList_nil ?_
            refine blk_n (then_n ?_)
            refine wp_region_list ?_
            refine st1 hS (mv rfl) rfl fun a w hS => ?_
            refine st1 hS (bin rfl rfl rfl) rfl fun a w hS => ?_
            refine st1x (v := Value.int .i64) hS (asg rfl) rfl fun i1661 a w hz hS => ?_
            have hM := lt_to hz hM; clear hz
            refine wpList_nil ?_
            refine then_n ?_
            exact hJ1662 _ _ ⟨v1660, i1661, hS.to [0] (by kernel_rfl) ⟨rfl, rfl, rfl, rfl, trivial⟩, hM⟩
          · refine wp_exit ?_
            refine then_ex (then_ex (blk_same (then_n ?_)))
            exact hJ1664 _ _ ⟨v1651, hS.to [0] (by kernel_rfl) ⟨rfl, rfl, rfl, trivial⟩, hM⟩
      · intro a w hI
        obtain ⟨v1663, hS, hM⟩ := hI
        rw [mortiseref05_Reader_Bits.j2] at hM
        refine wp_seq ?_
        refine wp_region_list ?_
        refine st1 hS (mv rfl) rfl fun a w hS => ?_
        refine st1 hS (mv rfl) rfl fun a w hS => ?_
        refine st1 hS (nck rfl) rfl fun a w hS => ?_
        refine st1 hS (fad rfl Tryd.runUnderlying49 rfl Tryd.sizeOf3 rfl) rfl fun a w hS => ?_
        refine st1 hS (ldb 0 rfl hB1647 rfl rfl Tryd.isAgg3) rfl fun a w hS => ?_
        refine st1 hS (mv rfl) rfl fun a w hS => ?_
        refine st1 hS (bin rfl rfl rfl) rfl fun a w hS => ?_
        refine st1 hS (nck rfl) rfl fun a w hS => ?_
        refine st1 hS (fad rfl Tryd.runUnderlying49 rfl Tryd.sizeOf3 rfl) rfl fun a w hS => ?_
        refine sto 0 ([str r1644.S_, .int .i64 (w64 (r1644.At_ + n_1648))]) hS rfl rfl hB1647 rfl rfl rfl rfl Tryd.sizeOf3 fun w f1665 hB1666 hS => ?_
        refine wpList_nil ?_
        refine then_n ?_
        refine wp_seq ?_
        refine wp_region_list ?_
        refine st1 hS (mv rfl) rfl fun a w hS => ?_
        refine st1 hS (asg rfl) rfl fun a w hS => ?_
        refine st1 hS (asg rfl) rfl fun a w hS => ?_
        refine wpList_nil ?_
        refine then_n ?_
        refine wp_ret ?_
        exact s_ret (rs := [4, 5]) hS rfl rfl (hret v1663 (0 : Int) (w64 (r1644.At_ + n_1648)) f1665 w hM hB1666 (hS.st.pick [0] (by kernel_rfl)))

theorem mortiseref07_state_bits_c {H : Imm} {F : List Frag} {w : World} {R : Ending → World → Prop} {kr : (Int × Int × Int) → Prop} {kp : Value → Prop} (hG : Gl H) (K : Nat) (s1631 : T_mortiseref07_state) (n_1642 : Int) (from_1643 : Int) (b1632 : Nat) (f1633 : Frag) (b1635 : Nat) (f1636 : Frag) (A1638 : Option Addr) (c1639 : Nat) (f1640 : Frag) (hB1634 : Blk f1633 b1632 ([ptr b1635 0, .slice A1638 s1631.out_.length c1639, .int .i64 s1631.limit_]) 51) (hB1637 : Blk f1636 b1635 ([str s1631.r_.S_, .int .i64 s1631.r_.At_]) 49) (hV1641 : Vec 5 (ci .u8) 1 A1638 s1631.out_ c1639 f1640)
    (hS : St w H [f1633, f1636, f1640] F) (hm : (mortiseref07_state_bits.m K s1631 n_1642 from_1643).wp kr kp)
    (hret : ∀ (x1678 : Int) (x1679 : Int) (at_1680 : Int) (f1681 : Frag) (w : World), kr (x1678, x1679, at_1680) → (Blk f1681 b1635 ([str s1631.r_.S_, .int .i64 at_1680]) 49) → St w H [f1633, f1681, f1640] F → R (.returned (.tuple ⟨[.int .i64 x1678, .int .i64 x1679]⟩)) w) :
    Calls Tryd.prog 27 ⟨[ptr b1632 0, .int .i64 n_1642, .int .i64 from_1643]⟩ w R := by
  refine enter Tryd.func27 rfl Tryd.ntmps27 rfl hS fun a w hS => ?_
  have hM := hm; clear hm
  rw [mortiseref07_state_bits.m] at hM
  refine wp_seq ?_
  refine wp_region_list ?_
  refine st1 hS (asg rfl) rfl fun a w hS => ?_
  refine st1 hS (asg rfl) rfl fun a w hS => ?_
  refine wpList_nil ?_
  refine then_n ?_
  refine wp_seq ?_
  refine wp_region_list ?_
  refine st1 hS (mv rfl) rfl fun a w hS => ?_
  refine st1 hS (nck rfl) rfl fun a w hS => ?_
  refine st1 hS (fad rfl Tryd.runUnderlying51 rfl Tryd.sizeOf47 rfl) rfl fun a w hS => ?_
  refine st1 hS (ldb 0 rfl hB1634 rfl rfl Tryd.isAgg47) rfl fun a w hS => ?_
  refine st1 hS (mv rfl) rfl fun a w hS => ?_
  refine s_call hS rfl Tryd.call40 (mortiseref05_Reader_Bits_c hG K s1631.r_ n_1642 b1635 f1636 hB1637 (hS.st.part 1 [1, 0, 2] (by kernel_rfl)) (wp_bind hM) (fun x1672 x1673 at_1674 f1675 w hM h1676 hst => s_back hS.ev hst.appF rfl fun hS => ?_))
  replace hS : Ss _ _ _ H [f1675, f1633, f1640] F _ _ := hS
  refine st1 hS (mv rfl) rfl fun a w hS => ?_
  refine st1 hS (ex rfl rfl) rfl fun a w hS => ?_
  refine st1 hS (ex rfl rfl) rfl fun a w hS => ?_
  refine st1 hS (asg rfl) rfl fun a w hS => ?_
  refine st1 hS (asg rfl) rfl fun a w hS => ?_
  refine wpList_nil ?_
  refine then_n ?_
  refine wp_seq ?_
  refine wp_region_list ?_
  refine st1 hS (mv rfl) rfl fun a w hS => ?_
  refine st1 hS (mv rfl) rfl fun a w hS => ?_
  refine st1 hS (cvi rfl Tryd.runUnderlying33 Tryd.runUnderlying3) rfl fun a w hS => ?_
  refine st1 hS (bin rfl rfl rfl) rfl fun a w hS => ?_
  refine st1 hS (mv rfl) rfl fun a w hS => ?_
  refine st1x (v := Value.int .i64) hS (asg rfl) rfl fun v1677 a w hz hS => ?_
  have hM := lt_to hz hM; clear hz
  refine st1 hS (asg rfl) rfl fun a w hS => ?_
  refine wpList_nil ?_
  refine then_n ?_
  refine wp_ret ?_
  exact s_ret (rs := [6, 7]) hS rfl rfl (hret v1677 x1673 at_1674 f1675 w hM h1676 (hS.st.pick [1, 0, 2] (by kernel_rfl)))

theorem mortiseref05_Reader_Align_c {H : Imm} {F : List Frag} {w : World} {R : Ending → World → Prop} {kr : Int → Prop} {kp : Value → Prop} (hG : Gl H) (K : Nat) (r1714 : T_mortiseref05_Reader) (b1715 : Nat) (f1716 : Frag) (hB1717 : Blk f1716 b1715 ([str r1714.S_, .int .i64 r1714.At_]) 49)
    (hS : St w H [f1716] F) (hm : (mortiseref05_Reader_Align.m K r1714).wp kr kp)
    (hret : ∀ (at_1733 : Int) (f1734 : Frag) (w : World), kr at_1733 → (Blk f1734 b1715 ([str r1714.S_, .int .i64 at_1733]) 49) → St w H [f1734] F → R (.returned (.tuple ⟨[]⟩)) w) :
    Calls Tryd.prog 50 ⟨[ptr b1715 0]⟩ w R := by
  refine enter Tryd.func50 rfl Tryd.ntmps50 rfl hS fun a w hS => ?_
  have hM := hm; clear hm
  rw [mortiseref05_Reader_Align.m] at hM
  refine wp_block ?_
  refine s_loopJ (fun k1728 a w => ∃ (at_1725 : Int) (f1726 : Frag), Ss 15 [] [(0, ptr b1715 0)] H [f1726] F a w ∧ (Blk f1726 b1715 ([str r1714.S_, .int .i64 at_1725]) 49) ∧ (mortiseref05_Reader_Align.l1 K k1728 at_1725).wp kr kp) K ?_ ?_ ?_
  · exact ⟨r1714.At_, f1716, hS.to [0] (by kernel_rfl) ⟨rfl, trivial⟩, hB1717, hM⟩
  · intro a w hI; obtain ⟨_, _, _, _, hM⟩ := hI; exact hM
  · intro k1728 a w hI J1732 hJ1732
    obtain ⟨at_1725, f1726, hS, hB1727, hM⟩ := hI
    rw [mortiseref05_Reader_Align.l1] at hM
    refine wp_seq ?_
    refine wp_seq ?_
    refine wp_region_list ?_
    refine st1 hS (mv rfl) rfl fun a w hS => ?_
    refine st1 hS (nck rfl) rfl fun a w hS => ?_
    refine st1 hS (fad rfl Tryd.runUnderlying49 rfl Tryd.sizeOf3 rfl) rfl fun a w hS => ?_
    refine st1 hS (ldb 0 rfl hB1727 rfl rfl Tryd.isAgg3) rfl fun a w hS => ?_
    refine st1 hS (rem rfl rfl rfl) rfl fun a w hS => ?_
    refine st1 hS (bin rfl rfl rfl) rfl fun a w hS => ?_
    refine wpList_nil ?_
    refine then_n ?_
    refine s_cond hS rfl hM (fun hb1729 hM => ?_) (fun hb1729 hM => ?_)
    · refine wp_skip ?_
      refine then_n ?_
      refine wp_block ?_
      refine wp_region_list ?_
      refine st1 hS (mv rfl) rfl fun a w hS => ?_
      refine st1 hS (nck rfl) rfl fun a w hS => ?_
      refine st1 hS (fad rfl Tryd.runUnderlying49 rfl Tryd.sizeOf3 rfl) rfl fun a w hS => ?_
      refine st1 hS (ldb 0 rfl hB1727 rfl rfl Tryd.isAgg3) rfl fun a w hS => ?_
      refine st1 hS (bin rfl rfl rfl) rfl fun a w hS => ?_
      refine st1 hS (nck rfl) rfl fun a w hS => ?_
      refine st1 hS (fad rfl Tryd.runUnderlying49 rfl Tryd.sizeOf3 rfl) rfl fun a w hS => ?_
      refine sto 0 ([str r1714.S_, .int .i64 (w64 (at_1725 + (1 : Int)))]) hS rfl rfl hB1727 rfl rfl rfl rfl Tryd.sizeOf3 fun w f1730 hB1731 hS => ?_
      refine wpList_nil ?_
      refine blk_n (then_n ?_)
      exact hJ1732 _ _ ⟨(w64 (at_1725 + (1 : Int))), f1730, hS.to [0] (by kernel_rfl) ⟨rfl, trivial⟩, hB1731, hM⟩
    · refine wp_exit ?_
      refine then_ex (then_ex (blk_same ?_))
      exact s_end (rs := []) hS rfl rfl (hret at_1725 f1726 w hM hB1727 (hS.st.pick [0] (by kernel_rfl)))

theorem mortiseref05_Reader_Bytes_c {H : Imm} {F : List Frag} {w : World} {R : Ending → World → Prop} {kr : ((List UInt8) × Int × Int) → Prop} {kp : Value → Prop} (hG : Gl H) (K : Nat) (r1708 : T_mortiseref05_Reader) (n_1712 : Int) (b1709 : Nat) (f1710 : Frag) (hB1711 : Blk f1710 b1709 ([str r1708.S_, .int .i64 r1708.At_]) 49)
    (hS : St w H [f1710] F) (hm : (mortiseref05_Reader_Bytes.m K r1708 n_1712).wp kr kp)
    (hret : ∀ (x1745 : List UInt8) (x1746 : Int) (at_1747 : Int) (f1748 : Frag) (w : World), kr (x1745, x1746, at_1747) → (Blk f1748 b1709 ([str r1708.S_, .int .i64 at_1747]) 49) → St w H [f1748] F → R (.returned (.tuple ⟨[str x1745, .int .i64 x1746]⟩)) w) :
    Calls Tryd.prog 41 ⟨[ptr b1709 0, .int .i64 n_1712]⟩ w R := by
  refine enter Tryd.func41 rfl Tryd.ntmps41 rfl hS fun a w hS => ?_
  have hM := hm; clear hm
  rw [mortiseref05_Reader_Bytes.m] at hM
  refine wp_seq ?_
  refine wp_region_list ?_
  refine st1 hS (asg rfl) rfl fun a w hS => ?_
  refine st1 hS (asg rfl) rfl fun a w hS => ?_
  refine wpList_nil ?_
  refine then_n ?_
  refine wp_seq ?_
  refine wp_seq ?_
  refine wp_region_list ?_
  refine st1 hS (mv rfl) rfl fun a w hS => ?_
  refine st1 hS (bin rfl rfl rfl) rfl fun a w hS => ?_
  refine wpList_nil ?_
  refine then_n ?_
  refine s_cond hS rfl hM (fun hb1713 hM => ?_) (fun hb1713 hM => ?_)
  · refine wp_seq ?_
    refine wp_region_list ?_
    refine st1 hS (asg rfl) rfl fun a w hS => ?_
    refine st1 hS (asg rfl) rfl fun a w hS => ?_
    refine wpList_nil ?_
    refine then_n ?_
    refine wp_ret ?_
    refine then_ret ?_
    exact s_ret (rs := [4, 5]) hS rfl rfl (hret ([] : List UInt8) (1 : Int) r1708.At_ f1710 w hM hB1711 (hS.st.pick [0] (by kernel_rfl)))
  · refine wp_skip ?_
    refine then_n ?_
    refine wp_seq ?_
    refine wp_region_list ?_
    refine st1 hS (mv rfl) rfl fun a w hS => ?_
    refine s_call hS rfl Tryd.call50 (mortiseref05_Reader_Align_c hG K r1708 b1709 f1710 hB1711 (hS.st.part 1 [0] (by kernel_rfl)) (wp_bind hM) (fun at_1736 f1737 w hM h1738 hst => s_back hS.ev hst.appF rfl fun hS => ?_))
    replace hS : Ss _ _ _ H [f1737] F _ _ := hS
    refine wpList_nil ?_
    refine then_n ?_
    refine wp_seq ?_
    refine wp_region_list ?_
    refine st1 hS (mv rfl) rfl fun a w hS => ?_
    refine st1 hS (nck rfl) rfl fun a w hS => ?_
    refine st1 hS (fad rfl Tryd.runUnderlying49 rfl Tryd.sizeOf3 rfl) rfl fun a w hS => ?_
    refine st1 hS (ldb 0 rfl h1738 rfl rfl Tryd.isAgg3) rfl fun a w hS => ?_
    refine st1 hS (quo rfl rfl rfl) rfl fun a w hS => ?_
    refine st1x (v := Value.int .i64) hS (asg rfl) rfl fun at_1739 a w hz hS => ?_
    have hM := lt_to hz hM; clear hz
    refine wpList_nil ?_
    refine then_n ?_
    refine wp_seq ?_
    refine wp_seq ?_
    refine wp_region_list ?_
    refine st1 hS (mv rfl) rfl fun a w hS => ?_
    refine st1 hS (mv rfl) rfl fun a w hS => ?_
    refine st1 hS (nck rfl) rfl fun a w hS => ?_
    refine st1 hS (fad rfl Tryd.runUnderlying49 rfl Tryd.sizeOf9 rfl) rfl fun a w hS => ?_
    refine st1 hS (ldb 0 rfl h1738 rfl rfl Tryd.isAgg9) rfl fun a w hS => ?_
    refine st1 hS (lenS rfl Tryd.runUnderlying9) rfl fun a w hS => ?_
    refine st1 hS (mv rfl) rfl fun a w hS => ?_
    refine st1 hS (bin rfl rfl rfl) rfl fun a w hS => ?_
    refine st1 hS (bin rfl rfl rfl) rfl fun a w hS => ?_
    refine wpList_nil ?_
    refine then_n ?_
    refine s_cond hS rfl hM (fun hb1740 hM => ?_) (fun hb1740 hM => ?_)
    · refine wp_seq ?_
      refine wp_region_list ?_
      refine st1 hS (asg rfl) rfl fun a w hS => ?_
      refine st1 hS (asg rfl) rfl fun a w hS => ?_
      refine wpList_nil ?_
      refine then_n ?_
      refine wp_ret ?_
      refine then_ret ?_
      exact s_ret (rs := [4, 5]) hS rfl rfl (hret ([] : List UInt8) (2 : Int) at_1736 f1737 w hM h1738 (hS.st.pick [0] (by kernel_rfl)))
    · refine wp_skip ?_
      refine then_n ?_
      refine wp_seq ?_
      refine wp_region_list ?_
      refine st1 hS (mv rfl) rfl fun a w hS => ?_
      refine st1 hS (mv rfl) rfl fun a w hS => ?_
      refine st1 hS (nck rfl) rfl fun a w hS => ?_
      refine st1 hS (fad rfl Tryd.runUnderlying49 rfl Tryd.sizeOf3 rfl) rfl fun a w hS => ?_
      refine st1 hS (ldb 0 rfl h1738 rfl rfl Tryd.isAgg3) rfl fun a w hS => ?_
      refine st1 hS (mv rfl) rfl fun a w hS => ?_
      refine st1 hS (bin rfl rfl rfl) rfl fun a w hS => ?_
      refine st1 hS (bin rfl rfl rfl) rfl fun a w hS => ?_
      refine st1 hS (nck rfl) rfl fun a w hS => ?_
      refine st1 hS (fad rfl Tryd.runUnderlying49 rfl Tryd.sizeOf3 rfl) rfl fun a w hS => ?_
      refine sto 0 ([str r1708.S_, .int .i64 (w64 (at_1736 + (w64 ((8 : Int) * n_1712))))]) hS rfl rfl h1738 rfl rfl rfl rfl Tryd.sizeOf3 fun w f1741 hB1742 hS => ?_
      refine wpList_nil ?_
      refine then_n ?_
      refine wp_seq ?_
      refine wp_region_list ?_
      refine st1 hS (mv rfl) rfl fun a w hS => ?_
      refine st1 hS (nck rfl) rfl fun a w hS => ?_
      refine st1 hS (fad rfl Tryd.runUnderlying49 rfl Tryd.sizeOf9 rfl) rfl fun a w hS => ?_
      refine st1 hS (ldb 0 rfl hB1742 rfl rfl Tryd.isAgg9) rfl fun a w hS => ?_
      refine st1 hS (mv rfl) rfl fun a w hS => ?_
      refine st1 hS (mv rfl) rfl fun a w hS => ?_
      refine st1 hS (mv rfl) rfl fun a w hS => ?_
      refine st1 hS (bin rfl rfl rfl) rfl fun a w hS => ?_
      obtain ⟨hk1743, hM⟩ := wp_chk hM
      refine st1 hS (slS rfl Tryd.runUnderlying9 (loS rfl) (hiS rfl) hk1743) rfl fun a w hS => ?_
      refine st1x (v := str) hS (asg rfl) rfl fun v1744 a w hz hS => ?_
      have hM := lt_to hz hM; clear hz
      refine st1 hS (asg rfl) rfl fun a w hS => ?_
      refine wpList_nil ?_
      refine then_n ?_
      refine wp_ret ?_
      exact s_ret (rs := [4, 5]) hS rfl rfl (hret v1744 (0 : Int) (w64 (at_1736 + (w64 ((8 : Int) * n_1712)))) f1741 w hM hB1742 (hS.st.pick [0] (by kernel_rfl)))

theorem mortiseref07_state_stored_c {H : Imm} {F : List Frag} {w : World} {R : Ending → World → Prop} {kr : (Int × Int × (List Int)) → Prop} {kp : Value → Prop} (hG : Gl H) (K : Nat) (s1697 : T_mortiseref07_state) (b1698 : Nat) (f1699 : Frag) (b1701 : Nat) (f1702 : Frag) (A1704 : Option Addr) (c1705 : Nat) (f1706 : Frag) (hB1700 : Blk f1699 b1698 ([ptr b1701 0, .slice A1704 s1697.out_.length c1705, .int .i64 s1697.limit_]) 51) (hB1703 : Blk f1702 b1701 ([str s1697.r_.S_, .int .i64 s1697.r_.At_]) 49) (hV1707 : Vec 5 (ci .u8) 1 A1704 s1697.out_ c1705 f1706)
    (hS : St w H [f1699, f1702, f1706] F) (hm : (mortiseref07_state_stored.m K s1697).wp kr kp)
    (hret : ∀ (x1782 : Int) (at_1783 : Int) (f1784 : Frag) (A1786 : Option Addr) (c1787 : Nat) (out1788 : (List Int)) (f1789 : Frag) (f1791 : Frag) (w : World), kr (x1782, at_1783, out1788) → (Blk f1784 b1701 ([str s1697.r_.S_, .int .i64 at_1783]) 49) → (Vec 5 (ci .u8) 1 A1786 out1788 c1787 f1789) → (Blk f1791 b1698 ([ptr b1701 0, .slice A1786 out1788.length c1787, .int .i64 s1697.limit_]) 51) → St w H [f1791, f1784, f1789] F → R (.returned (.int .i64 x1782)) w) :
    Calls Tryd.prog 28 ⟨[ptr b1698 0]⟩ w R := by
  refine enter Tryd.func28 rfl Tryd.ntmps28 rfl hS fun a w hS => ?_
  have hM := hm; clear hm
  rw [mortiseref07_state_stored.m] at hM
  refine wp_seq ?_
  refine wp_region_list ?_
  refine st1 hS (asg rfl) rfl fun a w hS => ?_
  refine wpList_nil ?_
  refine then_n ?_
  refine wp_seq ?_
  refine wp_region_list ?_
  refine st1 hS (mv rfl) rfl fun a w hS => ?_
  refine st1 hS (nck rfl) rfl fun a w hS => ?_
  refine st1 hS (fad rfl Tryd.runUnderlying51 rfl Tryd.sizeOf47 rfl) rfl fun a w hS => ?_
  refine st1 hS (ldb 0 rfl hB1700 rfl rfl Tryd.isAgg47) rfl fun a w hS => ?_
  refine s_call hS rfl Tryd.call41 (mortiseref05_Reader_Bytes_c hG K s1697.r_ (4 : Int) b1701 f1702 hB1703 (hS.st.part 1 [1, 0, 2] (by kernel_rfl)) (wp_bind hM) (fun x1750 x1751 at_1752 f1753 w hM h1754 hst => s_back hS.ev hst.appF rfl fun hS => ?_))
  replace hS : Ss _ _ _ H [f1753, f1699, f1706] F _ _ := hS
  refine st1 hS (mv rfl) rfl fun a w hS => ?_
  refine st1 hS (ex rfl rfl) rfl fun a w hS => ?_
  refine st1 hS (ex rfl rfl) rfl fun a w hS => ?_
  refine st1 hS (asg rfl) rfl fun a w hS => ?_
  refine st1 hS (asg rfl) rfl fun a w hS => ?_
  refine wpList_nil ?_
  refine then_n ?_
  refine wp_seq ?_
  refine wp_seq ?_
  refine wp_region_list ?_
  refine st1 hS (mv rfl) rfl fun a w hS => ?_
  refine st1 hS (bin rfl rfl rfl) rfl fun a w hS => ?_
  refine wpList_nil ?_
  refine then_n ?_
  refine s_cond hS rfl hM (fun hb1755 hM => ?_) (fun hb1755 hM => ?_)
  · refine wp_seq ?_
    refine wp_region_list ?_
    refine st1 hS (mv rfl) rfl fun a w hS => ?_
    refine st1 hS (asg rfl) rfl fun a w hS => ?_
    refine wpList_nil ?_
    refine then_n ?_
    refine wp_ret ?_
    refine then_ret ?_
    exact s_ret (rs := [2]) hS rfl rfl (hret x1751 at_1752 f1753 A1704 c1705 s1697.out_ f1706 f1699 w hM h1754 hV1707 hB1700 (hS.st.pick [1, 0, 2] (by kernel_rfl)))
  · refine wp_skip ?_
    refine then_n ?_
    refine wp_seq ?_
    obtain ⟨hk1757, hM⟩ := wp_chk hM
    obtain ⟨hk1759, hM⟩ := wp_chk hM
    obtain ⟨n_1760, hz1761⟩ : ∃ x, x = (w64 ((wr .i64 ((rd x1750 (0 : Int)).toNat : Int)) + (w64 ((256 : Int) * (wr .i64 ((rd x1750 (1 : Int)).toNat : Int)))))) := ⟨_, rfl⟩
    replace hM := lt_to hz1761 hM
    refine draw_begin (vals := [some (str x1750), some (.int .u8 ((rd x1750 (0 : Int)).toNat : Int)), some (.int .i64 (wr .i64 ((rd x1750 (0 : Int)).toNat : Int))), some (str x1750), some (.int .u8 ((rd x1750 (1 : Int)).toNat : Int)), some (.int .i64 (wr .i64 ((rd x1750 (1 : Int)).toNat : Int))), some (.int .i64 (w64 ((256 : Int) * (wr .i64 ((rd x1750 (1 : Int)).toNat : Int))))), some (.int .i64 (w64 ((wr .i64 ((rd x1750 (0 : Int)).toNat : Int)) + (w64 ((256 : Int) * (wr .i64 ((rd x1750 (1 : Int)).toNat : Int))))))), some (.int .i64 n_1760)]) hS mixed rfl ?_
    intro l w ho hcl hA hst
    refine phaseE (vals := [some (str x1750), some (.int .u8 ((rd x1750 (0 : Int)).toNat : Int)), some (.int .i64 (wr .i64 ((rd x1750 (0 : Int)).toNat : Int))), some (str x1750), some (.int .u8 ((rd x1750 (1 : Int)).toNat : Int)), some (.int .i64 (wr .i64 ((rd x1750 (1 : Int)).toNat : Int))), some (.int .i64 (w64 ((256 : Int) * (wr .i64 ((rd x1750 (1 : Int)).toNat : Int))))), some (.int .i64 (w64 ((wr .i64 ((rd x1750 (0 : Int)).toNat : Int)) + (w64 ((256 : Int) * (wr .i64 ((rd x1750 (1 : Int)).toNat : Int))))))), some (.int .i64 n_1760)]) [] [0, 1, 2, 3, 4, 5, 6, 7, 8] rfl rfl rfl (by exact ⟨nR rfl rfl rfl rfl rfl (by exact ovE (mv rfl) rfl), nR rfl rfl rfl rfl rfl (by exact ovE (ixs rfl rfl Tryd.runUnderlying9 hk1757) rfl), nR rfl rfl rfl rfl rfl (by exact ovE (cvi rfl Tryd.runUnderlying5 Tryd.runUnderlying3) rfl), nR rfl rfl rfl rfl rfl (by exact ovE (mv rfl) rfl), nR rfl rfl rfl rfl rfl (by exact ovE (ixs rfl rfl Tryd.runUnderlying9 hk1759) rfl), nR rfl rfl rfl rfl rfl (by exact ovE (cvi rfl Tryd.runUnderlying5 Tryd.runUnderlying3) rfl), nR rfl rfl rfl rfl rfl (by exact ovE (bin rfl rfl rfl) rfl), nR rfl rfl rfl rfl rfl (by exact ovE (bin rfl rfl rfl) rfl), nR rfl rfl rfl rfl rfl (by exact ovE (asg rfl) (congrArg (Value.int .i64) hz1761.symm)), trivial⟩) (fun a w hS => ?_) ho hcl (fun m hm => (List.not_mem_nil hm).elim) hA hst
    replace hS := hS.env2 (e' := [(0, ptr b1698 0), (3, str x1750), (5, .int .i64 n_1760)]) ⟨rfl, rfl, rfl, trivial⟩
    refine then_n ?_
    refine wp_seq ?_
    refine wp_seq ?_
    obtain ⟨hk1763, hM⟩ := wp_chk hM
    obtain ⟨hk1765, hM⟩ := wp_chk hM
    refine draw_begin (vals := [some (str x1750), some (.int .u8 ((rd x1750 (2 : Int)).toNat : Int)), some (.int .i64 (wr .i64 ((rd x1750 (2 : Int)).toNat : Int))), some (str x1750), some (.int .u8 ((rd x1750 (3 : Int)).toNat : Int)), some (.int .i64 (wr .i64 ((rd x1750 (3 : Int)).toNat : Int))), some (.int .i64 (w64 ((256 : Int) * (wr .i64 ((rd x1750 (3 : Int)).toNat : Int))))), some (.int .i64 (w64 ((wr .i64 ((rd x1750 (2 : Int)).toNat : Int)) + (w64 ((256 : Int) * (wr .i64 ((rd x1750 (3 : Int)).toNat : Int))))))), some (.int .i64 n_1760), some (.int .i64 (w64 ((65535 : Int) - n_1760))), some (.bool ((w64 ((wr .i64 ((rd x1750 (2 : Int)).toNat : Int)) + (w64 ((256 : Int) * (wr .i64 ((rd x1750 (3 : Int)).toNat : Int)))))) != (w64 ((65535 : Int) - n_1760))))]) hS mixed rfl ?_
    intro l w ho hcl hA hst
    refine phaseE (vals := [some (str x1750), some (.int .u8 ((rd x1750 (2 : Int)).toNat : Int)), some (.int .i64 (wr .i64 ((rd x1750 (2 : Int)).toNat : Int))), some (str x1750), some (.int .u8 ((rd x1750 (3 : Int)).toNat : Int)), some (.int .i64 (wr .i64 ((rd x1750 (3 : Int)).toNat : Int))), some (.int .i64 (w64 ((256 : Int) * (wr .i64 ((rd x1750 (3 : Int)).toNat : Int))))), some (.int .i64 (w64 ((wr .i64 ((rd x1750 (2 : Int)).toNat : Int)) + (w64 ((256 : Int) * (wr .i64 ((rd x1750 (3 : Int)).toNat : Int))))))), some (.int .i64 n_1760), some (.int .i64 (w64 ((65535 : Int) - n_1760))), some (.bool ((w64 ((wr .i64 ((rd x1750 (2 : Int)).toNat : Int)) + (w64 ((256 : Int) * (wr .i64 ((rd x1750 (3 : Int)).toNat : Int)))))) != (w64 ((65535 : Int) - n_1760))))]) [] [0, 1, 2, 3, 4, 5, 6, 7, 8, 9, 10] rfl rfl rfl (by exact ⟨nR rfl rfl rfl rfl rfl (by exact ovE (mv rfl) rfl), nR rfl rfl rfl rfl rfl (by exact ovE (ixs rfl rfl Tryd.runUnderlying9 hk1763) rfl), nR rfl rfl rfl rfl rfl (by exact ovE (cvi rfl Tryd.runUnderlying5 Tryd.runUnderlying3) rfl), nR rfl rfl rfl rfl rfl (by exact ovE (mv rfl) rfl), nR rfl rfl rfl rfl rfl (by exact ovE (ixs rfl rfl Tryd.runUnderlying9 hk1765) rfl), nR rfl rfl rfl rfl rfl (by exact ovE (cvi rfl Tryd.runUnderlying5 Tryd.runUnderlying3) rfl), nR rfl rfl rfl rfl rfl (by exact ovE (bin rfl rfl rfl) rfl), nR rfl rfl rfl rfl rfl (by exact ovE (bin rfl rfl rfl) rfl), nR rfl rfl rfl rfl rfl (by exact ovE (mv rfl) rfl), nR rfl rfl rfl rfl rfl (by exact ovE (bin rfl rfl rfl) rfl), nR rfl rfl rfl rfl rfl (by exact ovE (bin rfl rfl rfl) rfl), trivial⟩) (fun a w hS => ?_) ho hcl (fun m hm => (List.not_mem_nil hm).elim) hA hst
    replace hS := hS.env2 (e' := [(0, ptr b1698 0), (5, .int .i64 n_1760), (37, .bool ((w64 ((wr .i64 ((rd x1750 (2 : Int)).toNat : Int)) + (w64 ((256 : Int) * (wr .i64 ((rd x1750 (3 : Int)).toNat : Int)))))) != (w64 ((65535 : Int) - n_1760))))]) ⟨rfl, rfl, rfl, trivial⟩
    refine then_n ?_
    refine s_cond hS rfl hM (fun hb1766 hM => ?_) (fun hb1766 hM => ?_)
    · refine wp_seq ?_
      refine wp_region_list ?_
      refine st1 hS (asg rfl) rfl fun a w hS => ?_
      refine wpList_nil ?_
      refine then_n ?_
      refine wp_ret ?_
      refine then_ret ?_
      exact s_ret (rs := [2]) hS rfl rfl (hret (3 : Int) at_1752 f1753 A1704 c1705 s1697.out_ f1706 f1699 w hM h1754 hV1707 hB1700 (hS.st.pick [1, 0, 2] (by kernel_rfl)))
    · refine wp_skip ?_
      refine then_n ?_
      refine wp_seq ?_
      refine wp_region_list ?_
      refine st1 hS (mv rfl) rfl fun a w hS => ?_
      refine st1 hS (nck rfl) rfl fun a w hS => ?_
      refine st1 hS (fad rfl Tryd.runUnderlying51 rfl Tryd.sizeOf47 rfl) rfl fun a w hS => ?_
      refine st1 hS (ldb 1 rfl hB1700 rfl rfl Tryd.isAgg47) rfl fun a w hS => ?_
      refine st1 hS (mv rfl) rfl fun a w hS => ?_
      refine s_call hS rfl Tryd.call41 (mortiseref05_Reader_Bytes_c hG K (T_mortiseref05_Reader.mk s1697.r_.S_ at_1752) n_1760 b1701 f1753 h1754 (hS.st.part 1 [0, 1, 2] (by kernel_rfl)) (wp_bind hM) (fun x1767 x1768 at_1769 f1770 w hM h1771 hst => s_back hS.ev hst.appF rfl fun hS => ?_))
      replace hS : Ss _ _ _ H [f1770, f1699, f1706] F _ _ := hS
      refine st1 hS (mv rfl) rfl fun a w hS => ?_
      refine st1 hS (ex rfl rfl) rfl fun a w hS => ?_
      refine st1 hS (ex rfl rfl) rfl fun a w hS => ?_
      refine st1 hS (asg rfl) rfl fun a w hS => ?_
      refine st1 hS (asg rfl) rfl fun a w hS => ?_
      refine wpList_nil ?_
      refine then_n ?_
      refine wp_seq ?_
      refine wp_seq ?_
      refine wp_region_list ?_
      refine st1 hS (mv rfl) rfl fun a w hS => ?_
      refine st1 hS (bin rfl rfl rfl) rfl fun a w hS => ?_
      refine wpList_nil ?_
      refine then_n ?_
      refine s_cond hS rfl hM (fun hb1772 hM => ?_) (fun hb1772 hM => ?_)
      · refine wp_seq ?_
        refine wp_region_list ?_
        refine st1 hS (mv rfl) rfl fun a w hS => ?_
        refine st1 hS (asg rfl) rfl fun a w hS => ?_
        refine wpList_nil ?_
        refine then_n ?_
        refine wp_ret ?_
        refine then_ret ?_
        exact s_ret (rs := [2]) hS rfl rfl (hret x1768 at_1769 f1770 A1704 c1705 s1697.out_ f1706 f1699 w hM h1771 hV1707 hB1700 (hS.st.pick [1, 0, 2] (by kernel_rfl)))
      · refine wp_skip ?_
        refine then_n ?_
        refine wp_seq ?_
        refine wp_seq ?_
        refine draw_begin (vals := [some (.int .i64 n_1760), some (ptr b1698 0), some (ptr b1698 0), some (ptr b1698 2), some (.int .i64 s1697.limit_), some (ptr b1698 0), some (ptr b1698 0), some (ptr b1698 1), some (.slice A1704 s1697.out_.length c1705), some (.int .i64 (s1697.out_.length : Int)), some (.int .i64 (w64 (s1697.limit_ - (s1697.out_.length : Int)))), some (.bool (decide (n_1760 > (w64 (s1697.limit_ - (s1697.out_.length : Int))))))]) hS mixed rfl ?_
        intro l w ho hcl hA hst
        refine phaseE (vals := [some (.int .i64 n_1760), some (ptr b1698 0), some (ptr b1698 0), some (ptr b1698 2), some (.int .i64 s1697.limit_), some (ptr b1698 0), some (ptr b1698 0), some (ptr b1698 1), some (.slice A1704 s1697.out_.length c1705), some (.int .i64 (s1697.out_.length : Int)), some (.int .i64 (w64 (s1697.limit_ - (s1697.out_.length : Int)))), some (.bool (decide (n_1760 > (w64 (s1697.limit_ - (s1697.out_.length : Int))))))]) [] [0, 1, 2, 3, 4, 5, 6, 7, 8, 9, 10, 11] rfl rfl rfl (by exact ⟨nR rfl rfl rfl rfl rfl (by exact ovE (mv rfl) rfl), nR rfl rfl rfl rfl rfl (by exact ovE (mv rfl) rfl), nR rfl rfl rfl rfl rfl (by exact ovE (nck rfl) rfl), nR rfl rfl rfl rfl rfl (by exact ovE (fad rfl Tryd.runUnderlying51 rfl Tryd.sizeOf3 rfl) rfl), nR rfl rfl rfl rfl rfl (by exact ovE (ldb 1 rfl hB1700 rfl rfl Tryd.isAgg3) rfl), nR rfl rfl rfl rfl rfl (by exact ovE (mv rfl) rfl), nR rfl rfl rfl rfl rfl (by exact ovE (nck rfl) rfl), nR rfl rfl rfl rfl rfl (by exact ovE (fad rfl Tryd.runUnderlying51 rfl Tryd.sizeOf30 rfl) rfl), nR rfl rfl rfl rfl rfl (by exact ovE (ldb 1 rfl hB1700 rfl rfl Tryd.isAgg30) rfl), nR rfl rfl rfl rfl rfl (by exact ovE (lenV rfl Tryd.runUnderlying30) rfl), nR rfl rfl rfl rfl rfl (by exact ovE (bin rfl rfl rfl) rfl), nR rfl rfl rfl rfl rfl (by exact ovE (bin rfl rfl rfl) rfl), trivial⟩) (fun a w hS => ?_) ho hcl (fun m hm => (List.not_mem_nil hm).elim) hA hst
        replace hS := hS.env2 (e' := [(0, ptr b1698 0), (6, str x1767), (61, .bool (decide (n_1760 > (w64 (s1697.limit_ - (s1697.out_.length : Int))))))]) ⟨rfl, rfl, rfl, trivial⟩
        refine then_n ?_
        refine s_cond hS rfl hM (fun hb1773 hM => ?_) (fun hb1773 hM => ?_)
        · refine wp_seq ?_
          refine wp_region_list ?_
          refine st1 hS (asg rfl) rfl fun a w hS => ?_
          refine wpList_nil ?_
          refine then_n ?_
          refine wp_ret ?_
          refine then_ret ?_
          exact s_ret (rs := [2]) hS rfl rfl (hret (11 : Int) at_1769 f1770 A1704 c1705 s1697.out_ f1706 f1699 w hM h1771 hV1707 hB1700 (hS.st.pick [1, 0, 2] (by kernel_rfl)))
        · refine wp_skip ?_
          refine then_n ?_
          refine wp_seq ?_
          refine wp_region_list ?_
          refine st1 hS (mv rfl) rfl fun a w hS => ?_
          refine st1 hS (mv rfl) rfl fun a w hS => ?_
          refine st1 hS (nck rfl) rfl fun a w hS => ?_
          refine st1 hS (fad rfl Tryd.runUnderlying51 rfl Tryd.sizeOf30 rfl) rfl fun a w hS => ?_
          refine st1 hS (ldb 1 rfl hB1700 rfl rfl Tryd.isAgg30) rfl fun a w hS => ?_
          refine st1 hS (mv rfl) rfl fun a w hS => ?_
          obtain ⟨hk1774, hM⟩ := wp_chk hM
          refine apS 2 hS rfl rfl hV1707 rfl Tryd.runUnderlying30 Tryd.runUnderlying9 X.el5 rfl hk1774 rfl fun zs1779 w A1775 c1776 f1777 hz hV1778 hS => ?_
          have hM := lt_to hz hM; clear hz
          refine st1 hS (nck rfl) rfl fun a w hS => ?_
          refine st1 hS (fad rfl Tryd.runUnderlying51 rfl Tryd.sizeOf30 rfl) rfl fun a w hS => ?_
          refine sto 1 ([ptr b1701 0, .slice A1775 zs1779.length c1776, .int .i64 s1697.limit_]) hS rfl rfl hB1700 rfl rfl rfl rfl Tryd.sizeOf30 fun w f1780 hB1781 hS => ?_
          refine wpList_nil ?_
          refine then_n ?_
          refine wp_seq ?_
          refine wp_region_list ?_
          refine st1 hS (asg rfl) rfl fun a w hS => ?_
          refine wpList_nil ?_
          refine then_n ?_
          refine wp_ret ?_
          exact s_ret (rs := [2]) hS rfl rfl (hret (0 : Int) at_1769 f1770 A1775 c1776 zs1779 f1777 f1780 w hM h1771 hV1778 hB1781 (hS.st.pick [1, 0, 2] (by kernel_rfl)))

theorem mortiseref07_Fixed_c {H : Imm} {F : List Frag} {w : World} {R : Ending → World → Prop} {kr : ((List Int) × (List Int)) → Prop} {kp : Value → Prop} (hG : Gl H) (K : Nat)
    (hS : St w H [] F) (hm : (mortiseref07_Fixed.m K).wp kr kp)
    (hret : ∀ (A1911 : Option Addr) (c1912 : Nat) (x1913 : (List Int)) (f1914 : Frag) (A1916 : Option Addr) (c1917 : Nat) (x1918 : (List Int)) (f1919 : Frag) (w : World), kr (x1913, x1918) → (Vec 3 (ci .i64) 1 A1911 x1913 c1912 f1914) → (Vec 3 (ci .i64) 1 A1916 x1918 c1917 f1919) → St w H [f1914, f1919] F → R (.returned (.tuple ⟨[.slice A1911 x1913.length c1912, .slice A1916 x1918.length c1917]⟩)) w) :
    Calls Tryd.prog 29 ⟨[]⟩ w R := by
  refine enter Tryd.func29 rfl Tryd.ntmps29 rfl hS fun a w hS => ?_
  have hM := hm; clear hm
  rw [mortiseref07_Fixed.m] at hM
  refine wp_seq ?_
  refine wp_region_list ?_
  refine st1 hS (asg rfl) rfl fun a w hS => ?_
  obtain ⟨f1807, hV1808, hS⟩ := hS.nilV 3 (ci .i64) 1
  refine st1 hS (asg rfl) rfl fun a w hS => ?_
  obtain ⟨f1809, hV1810, hS⟩ := hS.nilV 3 (ci .i64) 1
  refine wpList_nil ?_
  refine then_n ?_
  refine wp_seq ?_
  refine wp_region_list ?_
  obtain ⟨hk1811, hM⟩ := wp_chk hM
  refine mkS (g := (ci .i64)) (0 : Int) hS rfl rfl (by simp) Tryd.runUnderlying67 X.el3 (fun w => ⟨_, Tryd.zeroValue3 w, rfl⟩) (fun _ => rfl) rfl rfl hk1811 rfl fun zs1816 w A1812 c1813 f1814 hz hV1815 hS => ?_
  have hM := lt_to hz hM; clear hz
  refine st1 hS (asg rfl) rfl fun a w hS => ?_
  refine wpList_nil ?_
  refine then_n ?_
  refine seq_joinJ (fun a w => ∃ (l_1875 : (List Int)) (f1876 : Frag), Ss 40 [] [(2, .slice A1812 l_1875.length c1813)] H [f1876] F a w ∧ (Vec 3 (ci .i64) 1 A1812 l_1875 c1813 f1876) ∧ (mortiseref07_Fixed.j2 K l_1875).wp kr kp) (fun J1878 hJ1878 => ?_) ?_
  · refine wp_seq ?_
    refine wp_region_list ?_
    refine st1 hS (asg rfl) rfl fun a w hS => ?_
    refine wpList_nil ?_
    refine then_n ?_
    refine wp_block ?_
    refine s_loopJ (fun k1850 a w => ∃ (l_1846 : (List Int)) (f1847 : Frag) (i1849 : Int), Ss 40 [] [(2, .slice A1812 l_1846.length c1813), (3, .int .i64 i1849)] H [f1847] F a w ∧ (Vec 3 (ci .i64) 1 A1812 l_1846 c1813 f1847) ∧ (mortiseref07_Fixed.l1 K k1850 l_1846 i1849).wp kr kp) K ?_ ?_ ?_
    · exact ⟨zs1816, f1814, (0 : Int), hS.to [0] (by kernel_rfl) ⟨rfl, rfl, trivial⟩, hV1815, hM⟩
    · intro a w hI; obtain ⟨_, _, _, _, _, hM⟩ := hI; exact hM
    · intro k1850 a w hI J1874 hJ1874
      obtain ⟨l_1846, f1847, i1849, hS, hV1848, hM⟩ := hI
      rw [mortiseref07_Fixed.l1] at hM
      refine wp_seq ?_
      refine wp_seq ?_
      refine wp_region_list ?_
      refine st1 hS (mv rfl) rfl fun a w hS => ?_
      refine st1 hS (bin rfl rfl rfl) rfl fun a w hS => ?_
      refine wpList_nil ?_
      refine then_n ?_
      refine s_cond hS rfl hM (fun hb1851 hM => ?_) (fun hb1851 hM => ?_)
      · refine wp_skip ?_
        refine then_n ?_
        refine wp_seq ?_
        refine wp_block ?_
        refine wp_block ?_
        refine wp_seq ?_
        refine wp_region_list ?_
        refine st1 hS (mv rfl) rfl fun a w hS => ?_
        refine st1 hS (bin rfl rfl rfl) rfl fun a w hS => ?_
        refine st1 hS (mv rfl) rfl fun a w hS => ?_
        refine g_op 2 false 17 (b := (decide (i1849 < (144 : Int)))) (r := (decide (i1849 > (279 : Int)))) hS rfl rfl rfl rfl rfl rfl rfl (fun hb a w hS K hK => ?_) rfl fun a w hS => ?_
        · refine st1g hS rfl rfl rfl hb (mv rfl) rfl fun a w hS => ?_
          refine st1g hS rfl rfl rfl hb (bin rfl rfl rfl) rfl fun a w hS => ?_
          exact wpList_nil (hK _ _ (hS.up 2 rfl rfl))
        refine st1x (v := Value.bool) hS (asg rfl) rfl fun v1852 a w hz hS => ?_
        have hM := lt_to hz hM; clear hz
        refine wpList_nil ?_
        refine then_n ?_
        refine s_cond hS rfl hM (fun hb1853 hM => ?_) (fun hb1853 hM => ?_)
        · refine wp_region_list ?_
          refine st1 hS (mv rfl) rfl fun a w hS => ?_
          refine st1 hS (mv rfl) rfl fun a w hS => ?_
          obtain ⟨hk1854, hM⟩ := wp_chk hM
          refine st1 hS (ixV rfl rfl Tryd.runUnderlying67 Tryd.sizeOf3 (hV1848.rd (i := 0) rfl) (fun _ => rfl) rfl hk1854) rfl fun a w hS => ?_
          refine stV 0 0 ((8 : Int)) hS rfl rfl hV1848 rfl Tryd.sizeOf3 (one_t3 (8 : Int)) (fun _ => rfl) hk1854 rfl rfl fun zs1857 w f1855 hz hz1858 hV1856 hS => ?_
          have hM := lt_to hz hM; clear hz
          replace hS := hS.re 2 (u := .slice A1812 l_1846.length c1813) (v := .slice A1812 zs1857.length c1813) rfl (by rw [hz1858])
          replace hS := hS.re 21 (u := .slice A1812 l_1846.length c1813) (v := .slice A1812 zs1857.length c1813) rfl (by rw [hz1858])
          refine wpList_nil ?_
          refine blk_n (blk_n (then_n ?_))
          refine wp_region_list ?_
          refine st1 hS (mv rfl) rfl fun a w hS => ?_
          refine st1 hS (bin rfl rfl rfl) rfl fun a w hS => ?_
          refine st1x (v := Value.int .i64) hS (asg rfl) rfl fun i1859 a w hz hS => ?_
          have hM := lt_to hz hM; clear hz
          refine wpList_nil ?_
          refine then_n ?_
          exact hJ1874 _ _ ⟨zs1857, f1855, i1859, hS.to [0] (by kernel_rfl) ⟨rfl, rfl, trivial⟩, hV1856, hM⟩
        · refine wp_seq ?_
          refine wp_region_list ?_
          refine st1 hS (mv rfl) rfl fun a w hS => ?_
          refine st1 hS (bin rfl rfl rfl) rfl fun a w hS => ?_
          refine st1x (v := Value.bool) hS (asg rfl) rfl fun v1860 a w hz hS => ?_
          have hM := lt_to hz hM; clear hz
          refine wpList_nil ?_
          refine then_n ?_
          refine s_cond hS rfl hM (fun hb1861 hM => ?_) (fun hb1861 hM => ?_)
          · refine wp_region_list ?_
            refine st1 hS (mv rfl) rfl fun a w hS => ?_
            refine st1 hS (mv rfl) rfl fun a w hS => ?_
            obtain ⟨hk1862, hM⟩ := wp_chk hM
            refine st1 hS (ixV rfl rfl Tryd.runUnderlying67 Tryd.sizeOf3 (hV1848.rd (i := 0) rfl) (fun _ => rfl) rfl hk1862) rfl fun a w hS => ?_
            refine stV 0 0 ((9 : Int)) hS rfl rfl hV1848 rfl Tryd.sizeOf3 (one_t3 (9 : Int)) (fun _ => rfl) hk1862 rfl rfl fun zs1865 w f1863 hz hz1866 hV1864 hS => ?_
            have hM := lt_to hz hM; clear hz
            replace hS := hS.re 2 (u := .slice A1812 l_1846.length c1813) (v := .slice A1812 zs1865.length c1813) rfl (by rw [hz1866])
            replace hS := hS.re 27 (u := .slice A1812 l_1846.length c1813) (v := .slice A1812 zs1865.length c1813) rfl (by rw [hz1866])
            refine wpList_nil ?_
            refine blk_n (blk_n (then_n ?_))
            refine wp_region_list ?_
            refine st1 hS (mv rfl) rfl fun a w hS => ?_
            refine st1 hS (bin rfl rfl rfl) rfl fun a w hS => ?_
            refine st1x (v := Value.int .i64) hS (asg rfl) rfl fun i1867 a w hz hS => ?_
            have hM := lt_to hz hM; clear hz
            refine wpList_nil ?_
            refine then_n ?_
            exact hJ1874 _ _ ⟨zs1865, f1863, i1867, hS.to [0] (by kernel_rfl) ⟨rfl, rfl, trivial⟩, hV1864, hM⟩
          · refine wp_region_list ?_
            refine st1 hS (mv rfl) rfl fun a w hS => ?_
            refine st1 hS (mv rfl) rfl fun a w hS => ?_
            obtain ⟨hk1868, hM⟩ := wp_chk hM
            refine st1 hS (ixV rfl rfl Tryd.runUnderlying67 Tryd.sizeOf3 (hV1848.rd (i := 0) rfl) (fun _ => rfl) rfl hk1868) rfl fun a w hS => ?_
            refine stV 0 0 ((7 : Int)) hS rfl rfl hV1848 rfl Tryd.sizeOf3 (one_t3 (7 : Int)) (fun _ => rfl) hk1868 rfl rfl fun zs1871 w f1869 hz hz1872 hV1870 hS => ?_
            have hM := lt_to hz hM; clear hz
            replace hS := hS.re 2 (u := .slice A1812 l_1846.length c1813) (v := .slice A1812 zs1871.length c1813) rfl (by rw [hz1872])
            replace hS := hS.re 11 (u := .slice A1812 l_1846.length c1813) (v := .slice A1812 zs1871.length c1813) rfl (by rw [hz1872])
            refine wpList_nil ?_
            refine blk_n (blk_n (then_n ?_))
            refine wp_region_list ?_
            refine st1 hS (mv rfl) rfl fun a w hS => ?_
            refine st1 hS (bin rfl rfl rfl) rfl fun a w hS => ?_
            refine st1x (v := Value.int .i64) hS (asg rfl) rfl fun i1873 a w hz hS => ?_
            have hM := lt_to hz hM; clear hz
            refine wpList_nil ?_
            refine then_n ?_
            exact hJ1874 _ _ ⟨zs1871, f1869, i1873, hS.to [0] (by kernel_rfl) ⟨rfl, rfl, trivial⟩, hV1870, hM⟩
      · refine wp_exit ?_
        refine then_ex (then_ex (blk_same (then_n ?_)))
        exact hJ1878 _ _ ⟨l_1846, f1847, hS.to [0] (by kernel_rfl) ⟨rfl, trivial⟩, hV1848, hM⟩
  · intro a w hI
    obtain ⟨l_1875, f1876, hS, hV1877, hM⟩ := hI
    rw [mortiseref07_Fixed.j2] at hM
    refine wp_seq ?_
    refine wp_region_list ?_
    obtain ⟨hk1879, hM⟩ := wp_chk hM
    refine mkS (g := (ci .i64)) (0 : Int) hS rfl rfl (by simp) Tryd.runUnderlying67 X.el3 (fun w => ⟨_, Tryd.zeroValue3 w, rfl⟩) (fun _ => rfl) rfl rfl hk1879 rfl fun zs1884 w A1880 c1881 f1882 hz hV1883 hS => ?_
    have hM := lt_to hz hM; clear hz
    refine st1 hS (asg rfl) rfl fun a w hS => ?_
    refine wpList_nil ?_
    refine then_n ?_
    refine wp_seq ?_
    refine wp_seq ?_
    refine wp_region_list ?_
    refine st1 hS (asg rfl) rfl fun a w hS => ?_
    refine wpList_nil ?_
    refine then_n ?_
    refine wp_block ?_
    refine s_loopJ (fun k1902 a w => ∃ (d1898 : (List Int)) (f1899 : Frag) (i1901 : Int), Ss 40 [] [(2, .slice A1812 l_1875.length c1813), (4, .slice A1880 d1898.length c1881), (5, .int .i64 i1901)] H [f1876, f1899] F a w ∧ (Vec 3 (ci .i64) 1 A1880 d1898 c1881 f1899) ∧ (mortiseref07_Fixed.l3 K l_1875 k1902 d1898 i1901).wp kr kp) K ?_ ?_ ?_
    · exact ⟨zs1884, f1882, (0 : Int), hS.to [1, 0] (by kernel_rfl) ⟨rfl, rfl, rfl, trivial⟩, hV1883, hM⟩
    · intro a w hI; obtain ⟨_, _, _, _, _, hM⟩ := hI; exact hM
    · intro k1902 a w hI J1910 hJ1910
      obtain ⟨d1898, f1899, i1901, hS, hV1900, hM⟩ := hI
      rw [mortiseref07_Fixed.l3] at hM
      refine wp_seq ?_
      refine wp_seq ?_
      refine wp_region_list ?_
      refine st1 hS (mv rfl) rfl fun a w hS => ?_
      refine st1 hS (bin rfl rfl rfl) rfl fun a w hS => ?_
      refine wpList_nil ?_
      refine then_n ?_
      refine s_cond hS rfl hM (fun hb1903 hM => ?_) (fun hb1903 hM => ?_)
      · refine wp_skip ?_
        refine then_n ?_
        refine wp_seq ?_
        refine wp_block ?_
        refine wp_region_list ?_
        refine st1 hS (mv rfl) rfl fun a w hS => ?_
        refine st1 hS (mv rfl) rfl fun a w hS => ?_
        obtain ⟨hk1904, hM⟩ := wp_chk hM
        refine st1 hS (ixV rfl rfl Tryd.runUnderlying67 Tryd.sizeOf3 (hV1900.rd (i := 1) rfl) (fun _ => rfl) rfl hk1904) rfl fun a w hS => ?_
        refine stV 1 0 ((5 : Int)) hS rfl rfl hV1900 rfl Tryd.sizeOf3 (one_t3 (5 : Int)) (fun _ => rfl) hk1904 rfl rfl fun zs1907 w f1905 hz hz1908 hV1906 hS => ?_
        have hM := lt_to hz hM; clear hz
        replace hS := hS.re 4 (u := .slice A1880 d1898.length c1881) (v := .slice A1880 zs1907.length c1881) rfl (by rw [hz1908])
        replace hS := hS.re 35 (u := .slice A1880 d1898.length c1881) (v := .slice A1880 zs1907.length c1881) rfl (by rw [hz1908])
        refine wpList_nil ?_
        refine blk_n (then_n ?_)
        refine wp_region_list ?_
        refine st1 hS (mv rfl) rfl fun a w hS => ?_
        refine st1 hS (bin rfl rfl rfl) rfl fun a w hS => ?_
        refine st1x (v := Value.int .i64) hS (asg rfl) rfl fun i1909 a w hz hS => ?_
        have hM := lt_to hz hM; clear hz
        refine wpList_nil ?_
        refine then_n ?_
        exact hJ1910 _ _ ⟨zs1907, f1905, i1909, hS.to [0, 1] (by kernel_rfl) ⟨rfl, rfl, rfl, trivial⟩, hV1906, hM⟩
      · refine wp_exit ?_
        refine then_ex (then_ex (blk_same (then_n ?_)))
        refine wp_seq ?_
        refine wp_region_list ?_
        refine st1 hS (mv rfl) rfl fun a w hS => ?_
        refine st1 hS (mv rfl) rfl fun a w hS => ?_
        refine st1 hS (asg rfl) rfl fun a w hS => ?_
        refine st1 hS (asg rfl) rfl fun a w hS => ?_
        refine wpList_nil ?_
        refine then_n ?_
        refine wp_ret ?_
        exact s_ret (rs := [0, 1]) hS rfl rfl (hret A1812 c1813 l_1875 f1876 A1880 c1881 d1898 f1899 w hM hV1877 hV1900 (hS.st.pick [0, 1] (by kernel_rfl)))

theorem mortiseref06_Check_c {H : Imm} {F : List Frag} {w : World} {R : Ending → World → Prop} {kr : Int → Prop} {kp : Value → Prop} (hG : Gl H) (K : Nat) (l_1950 : List Int) (A1951 : Option Addr) (c1952 : Nat) (hr1953 : Rdl H [] F (ci .i64) A1951 l_1950) (hc1954 : l_1950.length ≤ c1952)
    (hS : St w H [] F) (hm : (mortiseref06_Check.m K l_1950).wp kr kp)
    (hret : ∀ (x1983 : Int) (w : World), kr x1983 → St w H [] F → R (.returned (.int .i64 x1983)) w) :
    Calls Tryd.prog 51 ⟨[.slice A1951 l_1950.length c1952]⟩ w R := by
  refine enter Tryd.func51 rfl Tryd.ntmps51 rfl hS fun a w hS => ?_
  have hM := hm; clear hm
  rw [mortiseref06_Check.m] at hM
  refine wp_seq ?_
  refine wp_region_list ?_
  refine st1 hS (asg rfl) rfl fun a w hS => ?_
  refine wpList_nil ?_
  refine then_n ?_
  refine wp_seq ?_
  refine wp_seq ?_
  refine wp_region_list ?_
  refine st1 hS (mv rfl) rfl fun a w hS => ?_
  refine st1 hS (lenV rfl Tryd.runUnderlying67) rfl fun a w hS => ?_
  refine st1 hS (bin rfl rfl rfl) rfl fun a w hS => ?_
  refine wpList_nil ?_
  refine then_n ?_
  refine s_cond hS rfl hM (fun hb1955 hM => ?_) (fun hb1955 hM => ?_)
  · refine wp_seq ?_
    refine wp_region_list ?_
    refine st1 hS (asg rfl) rfl fun a w hS => ?_
    refine wpList_nil ?_
    refine then_n ?_
    refine wp_ret ?_
    refine then_ret ?_
    exact s_ret (rs := [2]) hS rfl rfl (hret (1 : Int) w hM (hS.st.pick [] (by kernel_rfl)))
  · refine wp_skip ?_
    refine then_n ?_
    refine wp_seq ?_
    refine wp_region_list ?_
    refine st1 hS (asg rfl) rfl fun a w hS => ?_
    refine wpList_nil ?_
    refine then_n ?_
    refine wp_seq ?_
    refine wp_region_list ?_
    refine st1 hS (asg rfl) rfl fun a w hS => ?_
    refine wpList_nil ?_
    refine then_n ?_
    refine wp_seq ?_
    refine wp_region_list ?_
    refine st1 hS (asg rfl) rfl fun a w hS => ?_
    refine wpList_nil ?_
    refine then_n ?_
    refine seq_joinJ (fun a w => ∃ (sum1972 : Int) (n_1973 : Int) (last1974 : Int), Ss 62 [] [(3, .int .i64 sum1972), (4, .int .i64 n_1973), (5, .int .i64 last1974)] H [] F a w ∧ (mortiseref06_Check.j2 K sum1972 n_1973 last1974).wp kr kp) (fun J1975 hJ1975 => ?_) ?_
    · refine wp_seq ?_
      refine wp_region_list ?_
      refine st1 hS (asg rfl) rfl fun a w hS => ?_
      refine wpList_nil ?_
      refine then_n ?_
      refine wp_block ?_
      refine s_loopJ (fun k1960 a w => ∃ (sum1956 : Int) (n_1957 : Int) (last1958 : Int) (i1959 : Int), Ss 62 [] [(0, .slice A1951 l_1950.length c1952), (3, .int .i64 sum1956), (4, .int .i64 n_1957), (5, .int .i64 last1958), (6, .int .i64 i1959)] H [] F a w ∧ (mortiseref06_Check.l1 K l_1950 k1960 sum1956 n_1957 last1958 i1959).wp kr kp) K ?_ ?_ ?_
      · exact ⟨(0 : Int), (0 : Int), (0 : Int), (0 : Int), hS.to [] (by kernel_rfl) ⟨rfl, rfl, rfl, rfl, rfl, trivial⟩, hM⟩
      · intro a w hI; obtain ⟨_, _, _, _, _, hM⟩ := hI; exact hM
      · intro k1960 a w hI J1971 hJ1971
        obtain ⟨sum1956, n_1957, last1958, i1959, hS, hM⟩ := hI
        rw [mortiseref06_Check.l1] at hM
        refine wp_seq ?_
        refine wp_seq ?_
        refine wp_region_list ?_
        refine st1 hS (mv rfl) rfl fun a w hS => ?_
        refine st1 hS (mv rfl) rfl fun a w hS => ?_
        refine st1 hS (lenV rfl Tryd.runUnderlying67) rfl fun a w hS => ?_
        refine st1 hS (bin rfl rfl rfl) rfl fun a w hS => ?_
        refine wpList_nil ?_
        refine then_n ?_
        refine s_cond hS rfl hM (fun hb1961 hM => ?_) (fun hb1961 hM => ?_)
        · refine wp_skip ?_
          refine then_n ?_
          refine wp_seq ?_
          refine wp_block ?_
          refine wp_seq ?_
          refine wp_seq ?_
          refine wp_region_list ?_
          refine st1 hS (mv rfl) rfl fun a w hS => ?_
          refine st1 hS (mv rfl) rfl fun a w hS => ?_
          obtain ⟨hk1962, hM⟩ := wp_chk hM
          refine st1 hS (ixV rfl rfl Tryd.runUnderlying67 Tryd.sizeOf3 hr1953.wk (fun _ => rfl) rfl hk1962) rfl fun a w hS => ?_
          refine st1 hS (ldV0 rfl hr1953.wk (fun _ => rfl) hk1962 rfl Tryd.isAgg3) rfl fun a w hS => ?_
          refine st1 hS (bin rfl rfl rfl) rfl fun a w hS => ?_
          refine st1 hS (mv rfl) rfl fun a w hS => ?_
          refine g_op 5 false 21 (b := (decide ((rd l_1950 i1959) < (0 : Int)))) (r := (decide ((rd l_1950 i1959) > (15 : Int)))) hS rfl rfl rfl rfl rfl rfl rfl (fun hb a w hS K hK => ?_) rfl fun a w hS => ?_
          · refine st1g hS rfl rfl rfl hb (mv rfl) rfl fun a w hS => ?_
            refine st1g hS rfl rfl rfl hb (mv rfl) rfl fun a w hS => ?_
            refine st1g hS rfl rfl rfl hb (ixV rfl rfl Tryd.runUnderlying67 Tryd.sizeOf3 hr1953.wk (fun _ => rfl) rfl hk1962) rfl fun a w hS => ?_
            refine st1g hS rfl rfl rfl hb (ldV0 rfl hr1953.wk (fun _ => rfl) hk1962 rfl Tryd.isAgg3) rfl fun a w hS => ?_
            refine st1g hS rfl rfl rfl hb (bin rfl rfl rfl) rfl fun a w hS => ?_
            exact wpList_nil (hK _ _ (hS.up 5 rfl rfl))
          refine wpList_nil ?_
          refine then_n ?_
          refine s_cond hS rfl hM (fun hb1963 hM => ?_) (fun hb1963 hM => ?_)
          · refine wp_seq ?_
            refine wp_region_list ?_
            refine st1 hS (asg rfl) rfl fun a w hS => ?_
            refine wpList_nil ?_
            refine then_n ?_
            refine wp_ret ?_
            refine then_ret (blk_ret (then_ret (then_ret (blk_ret (then_ret ?_)))))
            exact s_ret (rs := [2]) hS rfl rfl (hret (1 : Int) w hM (hS.st.pick [] (by kernel_rfl)))
          · refine wp_skip ?_
            refine then_n ?_
            refine wp_seq ?_
            refine wp_region_list ?_
            refine st1 hS (mv rfl) rfl fun a w hS => ?_
            refine st1 hS (mv rfl) rfl fun a w hS => ?_
            refine st1 hS (ixV rfl rfl Tryd.runUnderlying67 Tryd.sizeOf3 hr1953.wk (fun _ => rfl) rfl hk1962) rfl fun a w hS => ?_
            refine st1 hS (ldV0 rfl hr1953.wk (fun _ => rfl) hk1962 rfl Tryd.isAgg3) rfl fun a w hS => ?_
            refine st1 hS (bin rfl rfl rfl) rfl fun a w hS => ?_
            refine wpList_nil ?_
            refine then_n ?_
            refine s_cond hS rfl hM (fun hb1964 hM => ?_) (fun hb1964 hM => ?_)
            · refine wp_seq ?_
              refine wp_region_list ?_
              refine st1 hS (mv rfl) rfl fun a w hS => ?_
              refine st1 hS (mv rfl) rfl fun a w hS => ?_
              refine st1 hS (mv rfl) rfl fun a w hS => ?_
              refine st1 hS (ixV rfl rfl Tryd.runUnderlying67 Tryd.sizeOf3 hr1953.wk (fun _ => rfl) rfl hk1962) rfl fun a w hS => ?_
              refine st1 hS (ldV0 rfl hr1953.wk (fun _ => rfl) hk1962 rfl Tryd.isAgg3) rfl fun a w hS => ?_
              refine st1 hS (bin rfl rfl rfl) rfl fun a w hS => ?_
              refine st1 hS (cvi rfl Tryd.runUnderlying3 Tryd.runUnderlying37) rfl fun a w hS => ?_
              obtain ⟨hk1965, hM⟩ := wp_chk hM
              refine st1 hS (shl rfl rfl hk1965) rfl fun a w hS => ?_
              refine st1 hS (bin rfl rfl rfl) rfl fun a w hS => ?_
              refine st1x (v := Value.int .i64) hS (asg rfl) rfl fun sum1966 a w hz hS => ?_
              have hM := lt_to hz hM; clear hz
              refine wpList_nil ?_
              refine then_n ?_
              refine wp_seq ?_
              refine wp_region_list ?_
              refine st1 hS (mv rfl) rfl fun a w hS => ?_
              refine st1 hS (bin rfl rfl rfl) rfl fun a w hS => ?_
              refine st1x (v := Value.int .i64) hS (asg rfl) rfl fun n_1967 a w hz hS => ?_
              have hM := lt_to hz hM; clear hz
              refine wpList_nil ?_
              refine then_n ?_
              refine wp_region_list ?_
              refine st1 hS (mv rfl) rfl fun a w hS => ?_
              refine st1 hS (mv rfl) rfl fun a w hS => ?_
              refine st1 hS (ixV rfl rfl Tryd.runUnderlying67 Tryd.sizeOf3 hr1953.wk (fun _ => rfl) rfl hk1962) rfl fun a w hS => ?_
              refine st1 hS (ldV0 rfl hr1953.wk (fun _ => rfl) hk1962 rfl Tryd.isAgg3) rfl fun a w hS => ?_
              refine st1x (v := Value.int .i64) hS (asg rfl) rfl fun last1968 a w hz hS => ?_
              have hM := lt_to hz hM; clear hz
              refine wpList_nil ?_
              refine blk_n (then_n ?_)
              refine wp_region_list ?_
              refine st1 hS (mv rfl) rfl fun a w hS => ?_
              refine st1 hS (bin rfl rfl rfl) rfl fun a w hS => ?_
              refine st1x (v := Value.int .i64) hS (asg rfl) rfl fun i1969 a w hz hS => ?_
              have hM := lt_to hz hM; clear hz
              refine wpList_nil ?_
              refine then_n ?_
              exact hJ1971 _ _ ⟨sum1966, n_1967, last1968, i1969, hS.to [] (by kernel_rfl) ⟨rfl, rfl, rfl, rfl, rfl, trivial⟩, hM⟩
            · refine wp_skip ?_
              refine blk_n (then_n ?_)
              refine wp_region_list ?_
              refine st1 hS (mv rfl) rfl fun a w hS => ?_
              refine st1 hS (bin rfl rfl rfl) rfl fun a w hS => ?_
              refine st1x (v := Value.int .i64) hS (asg rfl) rfl fun i1970 a w hz hS => ?_
              have hM := lt_to hz hM; clear hz
              refine wpList_nil ?_
              refine then_n ?_
              exact hJ1971 _ _ ⟨sum1956, n_1957, last1958, i1970, hS.to [] (by kernel_rfl) ⟨rfl, rfl, rfl, rfl, rfl, trivial⟩, hM⟩
        · refine wp_exit ?_
          refine then_ex (then_ex (blk_same (then_n ?_)))
          exact hJ1975 _ _ ⟨sum1956, n_1957, last1958, hS.to [] (by kernel_rfl) ⟨rfl, rfl, rfl, trivial⟩, hM⟩
    · intro a w hI
      obtain ⟨sum1972, n_1973, last1974, hS, hM⟩ := hI
      rw [mortiseref06_Check.j2] at hM
      refine wp_seq ?_
      refine wp_seq ?_
      refine wp_region_list ?_
      refine st1 hS (mv rfl) rfl fun a w hS => ?_
      refine st1 hS (bin rfl rfl rfl) rfl fun a w hS => ?_
      refine st1 hS (mv rfl) rfl fun a w hS => ?_
      refine seg_cutJ (fun a w => ∃ (v1980 : Bool), Ss 62 [] [(3, .int .i64 sum1972), (57, .bool v1980)] H [] F a w ∧ (mortiseref06_Check.j4 K sum1972 v1980).wp kr kp) 7 (fun J1981 hJ1981 => ?_) ?_
      · refine ifB (b := (n_1973 == (0 : Int))) hM (fun hb1976 hM => ?_) (fun hb1976 hM => ?_)
        · replace hS := hS.re 49 (v := .bool true) rfl (congrArg Value.bool hb1976)
          replace hS := hS.re 50 (v := .bool true) rfl (congrArg Value.bool hb1976)
          refine skips 6 hS rfl fun a w hS => ?_
          refine st1 hS (pk rfl rfl rfl) rfl fun a w hS => ?_
          refine wpList_nil ?_
          refine then_n ?_
          exact hJ1981 _ _ ⟨true, hS.to [] (by kernel_rfl) ⟨rfl, rfl, trivial⟩, hM⟩
        · replace hS := hS.re 49 (v := .bool false) rfl (congrArg Value.bool hb1976)
          replace hS := hS.re 50 (v := .bool false) rfl (congrArg Value.bool hb1976)
          refine st1g hS rfl rfl rfl rfl (mv rfl) rfl fun a w hS => ?_
          refine st1g hS rfl rfl rfl rfl (bin rfl rfl rfl) rfl fun a w hS => ?_
          refine st1g hS rfl rfl rfl rfl (mv rfl) rfl fun a w hS => ?_
          refine seg_cutJ (fun a w => ∃ (v1978 : Bool), Ss 62 [] [(3, .int .i64 sum1972), (50, .bool false), (56, .bool v1978)] H [] F a w ∧ (mortiseref06_Check.j3 K sum1972 v1978).wp kr kp) 3 (fun J1979 hJ1979 => ?_) ?_
          · refine ifB (b := (n_1973 == (1 : Int))) hM (fun hb1977 hM => ?_) (fun hb1977 hM => ?_)
            · replace hS := hS.re 52 (v := .bool true) rfl (congrArg Value.bool hb1977)
              replace hS := hS.re 53 (v := .bool true) rfl (congrArg Value.bool hb1977)
              refine st1g hS rfl rfl rfl rfl (mv rfl) rfl fun a w hS => ?_
              refine st1g hS rfl rfl rfl rfl (bin rfl rfl rfl) rfl fun a w hS => ?_
              refine st1g hS rfl rfl rfl rfl (pk rfl rfl rfl) rfl fun a w hS => ?_
              refine wpList_nil ?_
              refine then_n ?_
              exact hJ1979 _ _ ⟨(last1974 == (1 : Int)), hS.to [] (by kernel_rfl) ⟨rfl, rfl, rfl, trivial⟩, hM⟩
            · replace hS := hS.re 52 (v := .bool false) rfl (congrArg Value.bool hb1977)
              replace hS := hS.re 53 (v := .bool false) rfl (congrArg Value.bool hb1977)
              refine skips 2 hS rfl fun a w hS => ?_
              refine st1g hS rfl rfl rfl rfl (pk rfl rfl rfl) rfl fun a w hS => ?_
              refine wpList_nil ?_
              refine then_n ?_
              exact hJ1979 _ _ ⟨false, hS.to [] (by kernel_rfl) ⟨rfl, rfl, rfl, trivial⟩, hM⟩
          · intro a w hI
            obtain ⟨v1978, hS, hM⟩ := hI
            rw [mortiseref06_Check.j3] at hM
            refine st1 hS (pk rfl rfl rfl) rfl fun a w hS => ?_
            refine wpList_nil ?_
            refine then_n ?_
            exact hJ1981 _ _ ⟨v1978, hS.to [] (by kernel_rfl) ⟨rfl, rfl, trivial⟩, hM⟩
      · intro a w hI
        obtain ⟨v1980, hS, hM⟩ := hI
        rw [mortiseref06_Check.j4] at hM
        refine st1 hS (mv rfl) rfl fun a w hS => ?_
        refine g_op 2 false 58 (b := v1980) (r := (sum1972 == (32768 : Int))) hS rfl rfl rfl rfl rfl rfl rfl (fun hb a w hS K hK => ?_) rfl fun a w hS => ?_
        · refine st1g hS rfl rfl rfl hb (mv rfl) rfl fun a w hS => ?_
          refine st1g hS rfl rfl rfl hb (bin rfl rfl rfl) rfl fun a w hS => ?_
          exact wpList_nil (hK _ _ (hS.up 2 rfl rfl))
        refine wpList_nil ?_
        refine then_n ?_
        refine s_cond hS rfl hM (fun hb1982 hM => ?_) (fun hb1982 hM => ?_)
        · refine wp_seq ?_
          refine wp_region_list ?_
          refine st1 hS (asg rfl) rfl fun a w hS => ?_
          refine wpList_nil ?_
          refine then_n ?_
          refine wp_ret ?_
          refine then_ret ?_
          exact s_ret (rs := [2]) hS rfl rfl (hret (0 : Int) w hM (hS.st.pick [] (by kernel_rfl)))
        · refine wp_skip ?_
          refine then_n ?_
          refine wp_seq ?_
          refine wp_region_list ?_
          refine st1 hS (asg rfl) rfl fun a w hS => ?_
          refine wpList_nil ?_
          refine then_n ?_
          refine wp_ret ?_
          exact s_ret (rs := [2]) hS rfl rfl (hret (3 : Int) w hM (hS.st.pick [] (by kernel_rfl)))

theorem mortiseref06_Codes_c {H : Imm} {F : List Frag} {w : World} {R : Ending → World → Prop} {kr : ((List Int) × Int) → Prop} {kp : Value → Prop} (hG : Gl H) (K : Nat) (l_1943 : List Int) (A1944 : Option Addr) (c1945 : Nat) (hr1946 : Rdl H [] F (ci .i64) A1944 l_1943) (hc1947 : l_1943.length ≤ c1945)
    (hS : St w H [] F) (hm : (mortiseref06_Codes.m K l_1943).wp kr kp)
    (hret : ∀ (A2091 : Option Addr) (c2092 : Nat) (x2093 : (List Int)) (f2094 : Frag) (x2096 : Int) (w : World), kr (x2093, x2096) → (Vec 3 (ci .i64) 1 A2091 x2093 c2092 f2094) → St w H [f2094] F → R (.returned (.tuple ⟨[.slice A2091 x2093.length c2092, .int .i64 x2096]⟩)) w) :
    Calls Tryd.prog 42 ⟨[.slice A1944 l_1943.length c1945]⟩ w R := by
  refine enter Tryd.func42 rfl Tryd.ntmps42 rfl hS fun a w hS => ?_
  have hM := hm; clear hm
  rw [mortiseref06_Codes.m] at hM
  refine wp_seq ?_
  refine wp_region_list ?_
  refine st1 hS (asg rfl) rfl fun a w hS => ?_
  obtain ⟨f1948, hV1949, hS⟩ := hS.nilV 3 (ci .i64) 1
  refine st1 hS (asg rfl) rfl fun a w hS => ?_
  refine wpList_nil ?_
  refine then_n ?_
  refine wp_seq ?_
  refine wp_region_list ?_
  refine st1 hS (mv rfl) rfl fun a w hS => ?_
  refine s_call hS rfl Tryd.call51 (mortiseref06_Check_c hG K l_1943 A1944 c1945 (hr1946.app _) hc1947 (hS.st.part 0 [0] (by kernel_rfl)) (wp_bind hM) (fun x1984 w hM  hst => s_back hS.ev hst.appF rfl fun hS => ?_))
  replace hS : Ss _ _ _ H [f1948] F _ _ := hS
  refine st1 hS (asg rfl) rfl fun a w hS => ?_
  refine wpList_nil ?_
  refine then_n ?_
  refine wp_seq ?_
  refine wp_seq ?_
  refine wp_region_list ?_
  refine st1 hS (mv rfl) rfl fun a w hS => ?_
  refine st1 hS (bin rfl rfl rfl) rfl fun a w hS => ?_
  refine wpList_nil ?_
  refine then_n ?_
  refine s_cond hS rfl hM (fun hb1985 hM => ?_) (fun hb1985 hM => ?_)
  · refine wp_seq ?_
    refine wp_region_list ?_
    refine st1 hS (mv rfl) rfl fun a w hS => ?_
    refine st1 hS (asg rfl) rfl fun a w hS => ?_
    obtain ⟨f1986, hV1987, hS⟩ := hS.nilV 3 (ci .i64) 1
    refine st1 hS (asg rfl) rfl fun a w hS => ?_
    refine wpList_nil ?_
    refine then_n ?_
    refine wp_ret ?_
    refine then_ret ?_
    exact s_ret (rs := [2, 3]) hS rfl rfl (hret none (0) ([] : List Int) f1986 x1984 w hM hV1987 (hS.st.pick [0] (by kernel_rfl)))
  · refine wp_skip ?_
    refine then_n ?_
    refine wp_seq ?_
    refine wp_region_list ?_
    refine st1 hS (mv rfl) rfl fun a w hS => ?_
    refine st1 hS (lenV rfl Tryd.runUnderlying67) rfl fun a w hS => ?_
    obtain ⟨hk1988, hM⟩ := wp_chk hM
    refine mkS (g := (ci .i64)) (0 : Int) hS rfl rfl (by simp) Tryd.runUnderlying67 X.el3 (fun w => ⟨_, Tryd.zeroValue3 w, rfl⟩) (fun _ => rfl) rfl rfl hk1988 rfl fun zs1993 w A1989 c1990 f1991 hz hV1992 hS => ?_
    have hM := lt_to hz hM; clear hz
    refine st1 hS (asg rfl) rfl fun a w hS => ?_
    refine wpList_nil ?_
    refine then_n ?_
    refine wp_seq ?_
    refine wp_region_list ?_
    refine st1 hS (asg rfl) rfl fun a w hS => ?_
    refine wpList_nil ?_
    refine then_n ?_
    refine wp_seq ?_
    refine wp_seq ?_
    refine wp_region_list ?_
    refine st1 hS (asg rfl) rfl fun a w hS => ?_
    refine wpList_nil ?_
    refine then_n ?_
    refine wp_block ?_
    refine s_loopJ (fun k2048 a w => ∃ (out2043 : (List Int)) (f2044 : Frag) (code2046 : Int) (length2047 : Int), Ss 42 [] [(0, .slice A1944 l_1943.length c1945), (5, .slice A1989 out2043.length c1990), (6, .int .i64 code2046), (7, .int .i64 length2047)] H [f2044] F a w ∧ (Vec 3 (ci .i64) 1 A1989 out2043 c1990 f2044) ∧ (mortiseref06_Codes.l1 K l_1943 k2048 out2043 code2046 length2047).wp kr kp) K ?_ ?_ ?_
    · exact ⟨zs1993, f1991, (0 : Int), (1 : Int), hS.to [0] (by kernel_rfl) ⟨rfl, rfl, rfl, rfl, trivial⟩, hV1992, hM⟩
    · intro a w hI; obtain ⟨_, _, _, _, _, _, hM⟩ := hI; exact hM
    · intro k2048 a w hI J2090 hJ2090
      obtain ⟨out2043, f2044, code2046, length2047, hS, hV2045, hM⟩ := hI
      rw [mortiseref06_Codes.l1] at hM
      refine wp_seq ?_
      refine wp_seq ?_
      refine wp_region_list ?_
      refine st1 hS (mv rfl) rfl fun a w hS => ?_
      refine st1 hS (bin rfl rfl rfl) rfl fun a w hS => ?_
      refine wpList_nil ?_
      refine then_n ?_
      refine s_cond hS rfl hM (fun hb2049 hM => ?_) (fun hb2049 hM => ?_)
      · refine wp_skip ?_
        refine then_n ?_
        refine wp_seq ?_
        refine wp_block ?_
        refine wp_seq ?_
        refine wp_region_list ?_
        refine st1 hS (mv rfl) rfl fun a w hS => ?_
        refine st1 hS (bin rfl rfl rfl) rfl fun a w hS => ?_
        refine st1x (v := Value.int .i64) hS (asg rfl) rfl fun code2050 a w hz hS => ?_
        have hM := lt_to hz hM; clear hz
        refine wpList_nil ?_
        refine then_n ?_
        refine wp_seq ?_
        refine wp_region_list ?_
        refine st1 hS (asg rfl) rfl fun a w hS => ?_
        refine wpList_nil ?_
        refine then_n ?_
        refine wp_block ?_
        refine s_loopJ (fun k2076 a w => ∃ (out2071 : (List Int)) (f2072 : Frag) (code2074 : Int) (i2075 : Int), Ss 42 [] [(0, .slice A1944 l_1943.length c1945), (5, .slice A1989 out2071.length c1990), (6, .int .i64 code2074), (7, .int .i64 length2047), (8, .int .i64 i2075)] H [f2072] F a w ∧ (Vec 3 (ci .i64) 1 A1989 out2071 c1990 f2072) ∧ (mortiseref06_Codes.l2 K (mortiseref06_Codes.l1 K l_1943 k2048) l_1943 length2047 k2076 out2071 code2074 i2075).wp kr kp) K ?_ ?_ ?_
        · exact ⟨out2043, f2044, code2050, (0 : Int), hS.to [0] (by kernel_rfl) ⟨rfl, rfl, rfl, rfl, rfl, trivial⟩, hV2045, hM⟩
        · intro a w hI; obtain ⟨_, _, _, _, _, _, hM⟩ := hI; exact hM
        · intro k2076 a w hI J2089 hJ2089
          obtain ⟨out2071, f2072, code2074, i2075, hS, hV2073, hM⟩ := hI
          rw [mortiseref06_Codes.l2] at hM
          refine wp_seq ?_
          refine wp_seq ?_
          refine wp_region_list ?_
          refine st1 hS (mv rfl) rfl fun a w hS => ?_
          refine st1 hS (mv rfl) rfl fun a w hS => ?_
          refine st1 hS (lenV rfl Tryd.runUnderlying67) rfl fun a w hS => ?_
          refine st1 hS (bin rfl rfl rfl) rfl fun a w hS => ?_
          refine wpList_nil ?_
          refine then_n ?_
          refine s_cond hS rfl hM (fun hb2077 hM => ?_) (fun hb2077 hM => ?_)
          · refine wp_skip ?_
            refine then_n ?_
            refine wp_seq ?_
            refine wp_block ?_
            refine wp_seq ?_
            refine wp_region_list ?_
            refine st1 hS (mv rfl) rfl fun a w hS => ?_
            refine st1 hS (mv rfl) rfl fun a w hS => ?_
            obtain ⟨hk2079, hM⟩ := wp_chk hM
            refine st1 hS (ixV rfl rfl Tryd.runUnderlying67 Tryd.sizeOf3 hr1946.wk (fun _ => rfl) rfl hk2079) rfl fun a w hS => ?_
            refine st1 hS (ldV0 rfl hr1946.wk (fun _ => rfl) hk2079 rfl Tryd.isAgg3) rfl fun a w hS => ?_
            refine st1 hS (mv rfl) rfl fun a w hS => ?_
            refine st1 hS (bin rfl rfl rfl) rfl fun a w hS => ?_
            refine wpList_nil ?_
            refine then_n ?_
            refine s_cond hS rfl hM (fun hb2080 hM => ?_) (fun hb2080 hM => ?_)
            · refine wp_seq ?_
              refine wp_region_list ?_
              refine st1 hS (mv rfl) rfl fun a w hS => ?_
              refine st1 hS (mv rfl) rfl fun a w hS => ?_
              refine st1 hS (mv rfl) rfl fun a w hS => ?_
              obtain ⟨hk2081, hM⟩ := wp_chk hM
              refine st1 hS (ixV rfl rfl Tryd.runUnderlying67 Tryd.sizeOf3 (hV2073.rd (i := 0) rfl) (fun _ => rfl) rfl hk2081) rfl fun a w hS => ?_
              refine stV 0 0 (code2074) hS rfl rfl hV2073 rfl Tryd.sizeOf3 (one_t3 code2074) (fun _ => rfl) hk2081 rfl rfl fun zs2084 w f2082 hz hz2085 hV2083 hS => ?_
              have hM := lt_to hz hM; clear hz
              replace hS := hS.re 5 (u := .slice A1989 out2071.length c1990) (v := .slice A1989 zs2084.length c1990) rfl (by rw [hz2085])
              replace hS := hS.re 35 (u := .slice A1989 out2071.length c1990) (v := .slice A1989 zs2084.length c1990) rfl (by rw [hz2085])
              refine wpList_nil ?_
              refine then_n ?_
              refine wp_region_list ?_
              refine st1 hS (mv rfl) rfl fun a w hS => ?_
              refine st1 hS (bin rfl rfl rfl) rfl fun a w hS => ?_
              refine st1x (v := Value.int .i64) hS (asg rfl) rfl fun code2086 a w hz hS => ?_
              have hM := lt_to hz hM; clear hz
              refine wpList_nil ?_
              refine blk_n (then_n ?_)
              refine wp_region_list ?_
              refine st1 hS (mv rfl) rfl fun a w hS => ?_
              refine st1 hS (bin rfl rfl rfl) rfl fun a w hS => ?_
              refine st1x (v := Value.int .i64) hS (asg rfl) rfl fun i2087 a w hz hS => ?_
              have hM := lt_to hz hM; clear hz
              refine wpList_nil ?_
              refine then_n ?_
              exact hJ2089 _ _ ⟨zs2084, f2082, code2086, i2087, hS.to [0] (by kernel_rfl) ⟨rfl, rfl, rfl, rfl, rfl, trivial⟩, hV2083, hM⟩
            · refine wp_skip ?_
              refine blk_n (then_n ?_)
              refine wp_region_list ?_
              refine st1 hS (mv rfl) rfl fun a w hS => ?_
              refine st1 hS (bin rfl rfl rfl) rfl fun a w hS => ?_
              refine st1x (v := Value.int .i64) hS (asg rfl) rfl fun i2088 a w hz hS => ?_
              have hM := lt_to hz hM; clear hz
              refine wpList_nil ?_
              refine then_n ?_
              exact hJ2089 _ _ ⟨out2071, f2072, code2074, i2088, hS.to [0] (by kernel_rfl) ⟨rfl, rfl, rfl, rfl, rfl, trivial⟩, hV2073, hM⟩
          · refine wp_exit ?_
            refine then_ex (then_ex (blk_same (blk_n (then_n ?_))))
            refine wp_region_list ?_
            refine st1 hS (mv rfl) rfl fun a w hS => ?_
            refine st1 hS (bin rfl rfl rfl) rfl fun a w hS => ?_
            refine st1x (v := Value.int .i64) hS (asg rfl) rfl fun length2078 a w hz hS => ?_
            have hM := lt_to hz hM; clear hz
            refine wpList_nil ?_
            refine then_n ?_
            exact hJ2090 _ _ ⟨out2071, f2072, code2074, length2078, hS.to [0] (by kernel_rfl) ⟨rfl, rfl, rfl, rfl, trivial⟩, hV2073, hM⟩
      · refine wp_exit ?_
        refine then_ex (then_ex (blk_same (then_n ?_)))
        refine wp_seq ?_
        refine wp_region_list ?_
        refine st1 hS (mv rfl) rfl fun a w hS => ?_
        refine st1 hS (asg rfl) rfl fun a w hS => ?_
        refine st1 hS (asg rfl) rfl fun a w hS => ?_
        refine wpList_nil ?_
        refine then_n ?_
        refine wp_ret ?_
        exact s_ret (rs := [2, 3]) hS rfl rfl (hret A1989 c1990 out2043 f2044 (0 : Int) w hM hV2045 (hS.st.pick [0] (by kernel_rfl)))

theorem mortiseref07_coded_c {H : Imm} {F : List Frag} {w : World} {R : Ending → World → Prop} {kr : ((List Int) × Bool) → Prop} {kp : Value → Prop} (hG : Gl H) (K : Nat) (l_1931 : List Int) (A1932 : Option Addr) (c1933 : Nat) (hr1934 : Rdl H [] F (ci .i64) A1932 l_1931) (hc1935 : l_1931.length ≤ c1933)
    (hS : St w H [] F) (hm : (mortiseref07_coded.m K l_1931).wp kr kp)
    (hret : ∀ (A2106 : Option Addr) (c2107 : Nat) (codes2108 : (List Int)) (f2109 : Frag) (x2111 : Bool) (w : World), kr (codes2108, x2111) → (Vec 3 (ci .i64) 1 A2106 codes2108 c2107 f2109) → St w H [f2109] F → R (.returned (.tuple ⟨[.agg ⟨[.slice A1932 l_1931.length c1933, .slice A2106 codes2108.length c2107]⟩, .bool x2111]⟩)) w) :
    Calls Tryd.prog 30 ⟨[.slice A1932 l_1931.length c1933]⟩ w R := by
  refine enter Tryd.func30 rfl Tryd.ntmps30 rfl hS fun a w hS => ?_
  have hM := hm; clear hm
  rw [mortiseref07_coded.m] at hM
  refine wp_seq ?_
  refine wp_region_list ?_
  refine alc ([.slice none 0 0, .slice none 0 0]) hS Tryd.zeroValue71 rfl rfl fun w b1936 f1937 hB1938 hS => ?_
  obtain ⟨f1939, hV1940, hS⟩ := hS.nilV 3 (ci .i64) 1
  obtain ⟨f1941, hV1942, hS⟩ := hS.nilV 3 (ci .i64) 1
  refine st1 hS (asg rfl) rfl fun a w hS => ?_
  refine wpList_nil ?_
  refine then_n ?_
  refine wp_seq ?_
  refine wp_region_list ?_
  refine st1 hS (mv rfl) rfl fun a w hS => ?_
  refine s_call hS rfl Tryd.call42 (mortiseref06_Codes_c hG K l_1931 A1932 c1933 (hr1934.app _) hc1935 (hS.st.part 0 [0, 1, 2] (by kernel_rfl)) (wp_bind hM) (fun A2097 c2098 x2099 f2100 x2101 w hM h2102 hst => s_back hS.ev hst.appF rfl fun hS => ?_))
  replace hS : Ss _ _ _ H [f2100, f1941, f1939, f1937] F _ _ := hS
  refine st1 hS (mv rfl) rfl fun a w hS => ?_
  refine st1 hS (ex rfl rfl) rfl fun a w hS => ?_
  refine st1 hS (ex rfl rfl) rfl fun a w hS => ?_
  refine st1 hS (asg rfl) rfl fun a w hS => ?_
  refine st1 hS (asg rfl) rfl fun a w hS => ?_
  refine wpList_nil ?_
  refine then_n ?_
  refine wp_seq ?_
  refine wp_region_list ?_
  refine st1 hS (mv rfl) rfl fun a w hS => ?_
  refine st1 hS (mv rfl) rfl fun a w hS => ?_
  refine st1 hS (bld ([.slice A1932 l_1931.length c1933, .slice A2097 x2099.length c2098]) [(0, 1), (1, 1)] Tryd.zeroValue71 Tryd.runUnderlying71 (by intro w; simp [Tryd.sizeOf67]) rfl rfl) rfl fun a w hS => ?_
  refine st1 hS (mv rfl) rfl fun a w hS => ?_
  refine st1 hS (bin rfl rfl rfl) rfl fun a w hS => ?_
  refine stB 3 ([.slice A1932 l_1931.length c1933, .slice A2097 x2099.length c2098]) ([.slice A1932 l_1931.length c1933, .slice A2097 x2099.length c2098]) hS rfl rfl hB1938 rfl rfl Tryd.sizeOf71 (by simp [Value.oneCell']) (Nat.le_of_ble_eq_true rfl) rfl fun w f2103 hB2104 hS => ?_
  refine st1x (v := Value.bool) hS (asg rfl) rfl fun v2105 a w hz hS => ?_
  have hM := lt_to hz hM; clear hz
  refine wpList_nil ?_
  refine then_n ?_
  refine wp_ret ?_
  exact s_retC (vs := [.agg ⟨[.slice A1932 l_1931.length c1933, .slice A2097 x2099.length c2098]⟩, .bool v2105]) hS rfl (by exact ⟨rvA 3 ([.slice A1932 l_1931.length c1933, .slice A2097 x2099.length c2098]) rfl hB2104 rfl rfl rfl Tryd.isAgg71 Tryd.sizeOf71, rvT rfl, trivial⟩) (hret A2097 c2098 x2099 f2100 v2105 w hM h2102 (hS.st.pick [0] (by kernel_rfl)))

theorem mortiseref06_Next_c {H : Imm} {F : List Frag} {w : World} {R : Ending → World → Prop} {kr : (Int × Int × Int) → Prop} {kp : Value → Prop} (hG : Gl H) (K : Nat) (l_2178 : List Int) (codes2183 : List Int) (r2188 : T_mortiseref05_Reader) (A2179 : Option Addr) (c2180 : Nat) (A2184 : Option Addr) (c2185 : Nat) (b2189 : Nat) (f2190 : Frag) (hr2181 : Rdl H [] F (ci .i64) A2179 l_2178) (hc2182 : l_2178.length ≤ c2180) (hr2186 : Rdl H [] F (ci .i64) A2184 codes2183) (hc2187 : codes2183.length ≤ c2185) (hB2191 : Blk f2190 b2189 ([str r2188.S_, .int .i64 r2188.At_]) 49)
    (hS : St w H [f2190] F) (hm : (mortiseref06_Next.m K l_2178 codes2183 r2188).wp kr kp)
    (hret : ∀ (x2287 : Int) (x2288 : Int) (at_2289 : Int) (f2290 : Frag) (w : World), kr (x2287, x2288, at_2289) → (Blk f2290 b2189 ([str r2188.S_, .int .i64 at_2289]) 49) → St w H [f2290] F → R (.returned (.tuple ⟨[.int .i64 x2287, .int .i64 x2288]⟩)) w) :
    Calls Tryd.prog 43 ⟨[.slice A2179 l_2178.length c2180, .slice A2184 codes2183.length c2185, ptr b2189 0]⟩ w R := by
  refine enter Tryd.func43 rfl Tryd.ntmps43 rfl hS fun a w hS => ?_
  have hM := hm; clear hm
  rw [mortiseref06_Next.m] at hM
  refine wp_seq ?_
  refine wp_region_list ?_
  refine st1 hS (asg rfl) rfl fun a w hS => ?_
  refine st1 hS (asg rfl) rfl fun a w hS => ?_
  refine wpList_nil ?_
  refine then_n ?_
  refine wp_seq ?_
  refine wp_region_list ?_
  refine st1 hS (mv rfl) rfl fun a w hS => ?_
  refine st1 hS (nck rfl) rfl fun a w hS => ?_
  refine st1 hS (fad rfl Tryd.runUnderlying49 rfl Tryd.sizeOf3 rfl) rfl fun a w hS => ?_
  refine st1 hS (ldb 0 rfl hB2191 rfl rfl Tryd.isAgg3) rfl fun a w hS => ?_
  refine st1 hS (asg rfl) rfl fun a w hS => ?_
  refine wpList_nil ?_
  refine then_n ?_
  refine wp_seq ?_
  refine wp_region_list ?_
  refine st1 hS (asg rfl) rfl fun a w hS => ?_
  refine wpList_nil ?_
  refine then_n ?_
  refine seq_joinJ (fun a w => ∃ (at_2281 : Int) (f2282 : Frag), Ss 100 [] [(2, ptr b2189 0), (8, .int .i64 r2188.At_)] H [f2282] F a w ∧ (Blk f2282 b2189 ([str r2188.S_, .int .i64 at_2281]) 49) ∧ (mortiseref06_Next.j4 K r2188 at_2281).wp kr kp) (fun J2284 hJ2284 => ?_) ?_
  · refine wp_seq ?_
    refine wp_region_list ?_
    refine st1 hS (asg rfl) rfl fun a w hS => ?_
    refine wpList_nil ?_
    refine then_n ?_
    refine wp_block ?_
    refine s_loopJ (fun k2242 a w => ∃ (at_2237 : Int) (f2238 : Frag) (v2240 : Int) (length2241 : Int), Ss 100 [] [(0, .slice A2179 l_2178.length c2180), (1, .slice A2184 codes2183.length c2185), (2, ptr b2189 0), (8, .int .i64 r2188.At_), (9, .int .i64 v2240), (10, .int .i64 length2241)] H [f2238] F a w ∧ (Blk f2238 b2189 ([str r2188.S_, .int .i64 at_2237]) 49) ∧ (mortiseref06_Next.l1 K l_2178 codes2183 r2188 k2242 at_2237 v2240 length2241).wp kr kp) K ?_ ?_ ?_
    · exact ⟨r2188.At_, f2190, (0 : Int), (0 : Int), hS.to [0] (by kernel_rfl) ⟨rfl, rfl, rfl, rfl, rfl, rfl, trivial⟩, hB2191, hM⟩
    · intro a w hI; obtain ⟨_, _, _, _, _, _, hM⟩ := hI; exact hM
    · intro k2242 a w hI J2280 hJ2280
      obtain ⟨at_2237, f2238, v2240, length2241, hS, hB2239, hM⟩ := hI
      rw [mortiseref06_Next.l1] at hM
      refine wp_seq ?_
      refine wp_seq ?_
      refine wp_region_list ?_
      refine st1 hS (mv rfl) rfl fun a w hS => ?_
      refine st1 hS (bin rfl rfl rfl) rfl fun a w hS => ?_
      refine wpList_nil ?_
      refine then_n ?_
      refine s_cond hS rfl hM (fun hb2243 hM => ?_) (fun hb2243 hM => ?_)
      · refine wp_skip ?_
        refine then_n ?_
        refine wp_seq ?_
        refine wp_block ?_
        refine wp_seq ?_
        refine wp_region_list ?_
        refine st1 hS (asg rfl) rfl fun a w hS => ?_
        refine wpList_nil ?_
        refine then_n ?_
        refine seq_joinJ (fun a w => ∃ (begins2265 : Bool), Ss 100 [] [(0, .slice A2179 l_2178.length c2180), (1, .slice A2184 codes2183.length c2185), (2, ptr b2189 0), (8, .int .i64 r2188.At_), (9, .int .i64 v2240), (10, .int .i64 length2241), (11, .bool begins2265)] H [f2238] F a w ∧ (mortiseref06_Next.j3 K (mortiseref06_Next.l1 K l_2178 codes2183 r2188 k2242) r2188 at_2237 v2240 length2241 begins2265).wp kr kp) (fun J2266 hJ2266 => ?_) ?_
        · refine wp_seq ?_
          refine wp_region_list ?_
          refine st1 hS (asg rfl) rfl fun a w hS => ?_
          refine wpList_nil ?_
          refine then_n ?_
          refine wp_block ?_
          refine s_loopJ (fun k2246 a w => ∃ (begins2244 : Bool) (i2245 : Int), Ss 100 [] [(0, .slice A2179 l_2178.length c2180), (1, .slice A2184 codes2183.length c2185), (2, ptr b2189 0), (8, .int .i64 r2188.At_), (9, .int .i64 v2240), (10, .int .i64 length2241), (11, .bool begins2244), (12, .int .i64 i2245)] H [f2238] F a w ∧ (mortiseref06_Next.l2 K (mortiseref06_Next.l1 K l_2178 codes2183 r2188 k2242) l_2178 codes2183 r2188 at_2237 v2240 length2241 k2246 begins2244 i2245).wp kr kp) K ?_ ?_ ?_
          · exact ⟨false, (0 : Int), hS.to [0] (by kernel_rfl) ⟨rfl, rfl, rfl, rfl, rfl, rfl, rfl, rfl, trivial⟩, hM⟩
          · intro a w hI; obtain ⟨_, _, _, hM⟩ := hI; exact hM
          · intro k2246 a w hI J2264 hJ2264
            obtain ⟨begins2244, i2245, hS, hM⟩ := hI
            rw [mortiseref06_Next.l2] at hM
            refine wp_seq ?_
            refine wp_seq ?_
            refine wp_region_list ?_
            refine st1 hS (mv rfl) rfl fun a w hS => ?_
            refine st1 hS (mv rfl) rfl fun a w hS => ?_
            refine st1 hS (lenV rfl Tryd.runUnderlying67) rfl fun a w hS => ?_
            refine st1 hS (bin rfl rfl rfl) rfl fun a w hS => ?_
            refine wpList_nil ?_
            refine then_n ?_
            refine s_cond hS rfl hM (fun hb2247 hM => ?_) (fun hb2247 hM => ?_)
            · refine wp_skip ?_
              refine then_n ?_
              refine wp_seq ?_
              refine wp_block ?_
              refine wp_seq ?_
              refine wp_seq ?_
              refine wp_region_list ?_
              refine st1 hS (mv rfl) rfl fun a w hS => ?_
              refine st1 hS (mv rfl) rfl fun a w hS => ?_
              obtain ⟨hk2248, hM⟩ := wp_chk hM
              refine st1 hS (ixV rfl rfl Tryd.runUnderlying67 Tryd.sizeOf3 hr2181.wk (fun _ => rfl) rfl hk2248) rfl fun a w hS => ?_
              refine st1 hS (ldV0 rfl hr2181.wk (fun _ => rfl) hk2248 rfl Tryd.isAgg3) rfl fun a w hS => ?_
              refine st1 hS (mv rfl) rfl fun a w hS => ?_
              refine st1 hS (bin rfl rfl rfl) rfl fun a w hS => ?_
              refine st1 hS (mv rfl) rfl fun a w hS => ?_
              refine g_op 2 true 35 (b := ((rd l_2178 i2245) == length2241)) (r := (decide (length2241 > (0 : Int)))) hS rfl rfl rfl rfl rfl rfl rfl (fun hb a w hS K hK => ?_) rfl fun a w hS => ?_
              · refine st1g hS rfl rfl rfl hb (mv rfl) rfl fun a w hS => ?_
                refine st1g hS rfl rfl rfl hb (bin rfl rfl rfl) rfl fun a w hS => ?_
                exact wpList_nil (hK _ _ (hS.up 2 rfl rfl))
              refine st1 hS (mv rfl) rfl fun a w hS => ?_
              obtain ⟨hk2251, hM⟩ := wp_chk hM
              refine g_op 6 true 39 (b := (((rd l_2178 i2245) == length2241) && (decide (length2241 > (0 : Int))))) (r := ((rd codes2183 i2245) == v2240)) hS rfl rfl rfl rfl rfl rfl rfl (fun hb a w hS K hK => ?_) rfl fun a w hS => ?_
              · refine st1g hS rfl rfl rfl hb (mv rfl) rfl fun a w hS => ?_
                refine st1g hS rfl rfl rfl hb (mv rfl) rfl fun a w hS => ?_
                have hk2250 := imp_of hk2251 hb
                refine st1g hS rfl rfl rfl hb (ixV rfl rfl Tryd.runUnderlying67 Tryd.sizeOf3 hr2186.wk (fun _ => rfl) rfl hk2250) rfl fun a w hS => ?_
                refine st1g hS rfl rfl rfl hb (ldV0 rfl hr2186.wk (fun _ => rfl) hk2250 rfl Tryd.isAgg3) rfl fun a w hS => ?_
                refine st1g hS rfl rfl rfl hb (mv rfl) rfl fun a w hS => ?_
                refine st1g hS rfl rfl rfl hb (bin rfl rfl rfl) rfl fun a w hS => ?_
                exact wpList_nil (hK _ _ (hS.up 6 rfl rfl))
              refine wpList_nil ?_
              refine then_n ?_
              refine s_cond hS rfl hM (fun hb2252 hM => ?_) (fun hb2252 hM => ?_)
              · refine wp_seq ?_
                refine wp_region_list ?_
                refine st1 hS (mv rfl) rfl fun a w hS => ?_
                refine st1 hS (asg rfl) rfl fun a w hS => ?_
                refine st1 hS (asg rfl) rfl fun a w hS => ?_
                refine wpList_nil ?_
                refine then_n ?_
                refine wp_ret ?_
                refine then_ret (blk_ret (then_ret (then_ret (blk_ret (then_ret (blk_ret (then_ret (then_ret (blk_ret (then_ret ?_))))))))))
                exact s_ret (rs := [6, 7]) hS rfl rfl (hret i2245 (0 : Int) at_2237 f2238 w hM hB2239 (hS.st.pick [0] (by kernel_rfl)))
              · refine wp_skip ?_
                refine then_n ?_
                refine ifB (b := begins2244) hM (fun hb2253 hM => ?_) (fun hb2253 hM => ?_)
                · refine draw_begin (vals := [some (.bool true), some (.bool true), some (undef), some (undef), some (undef), some (undef), some (undef), some (undef), some (undef), some (undef), some (undef), some (undef), some (undef), some (undef), some (undef), some (undef), some (undef), some (undef), some (undef), some (undef), some (undef), some (undef), some (undef), some (undef), some (.bool true), some (.bool true)]) hS mixed rfl ?_
                  intro l w ho hcl hA hst
                  refine phaseE (vals := [some (.bool true), some (.bool true), some (undef), some (undef), some (undef), some (undef), some (undef), some (undef), some (undef), some (undef), some (undef), some (undef), some (undef), some (undef), some (undef), some (undef), some (undef), some (undef), some (undef), some (undef), some (undef), some (undef), some (undef), some (undef), some (.bool true), some (.bool true)]) [] [0, 1, 2, 3, 4, 5, 6, 7, 8, 9, 10, 11, 12, 13, 14, 15, 16, 17, 18, 19, 20, 21, 22, 23, 24, 25] rfl rfl rfl (by exact ⟨nR rfl rfl rfl rfl rfl (by exact ovE (mv rfl) (congrArg Value.bool hb2253)), nR rfl rfl rfl rfl rfl (by exact ovE (mv rfl) rfl), nS rfl rfl rfl rfl rfl rfl rfl rfl rfl, nS rfl rfl rfl rfl rfl rfl rfl rfl rfl, nS rfl rfl rfl rfl rfl rfl rfl rfl rfl, nS rfl rfl rfl rfl rfl rfl rfl rfl rfl, nS rfl rfl rfl rfl rfl rfl rfl rfl rfl, nS rfl rfl rfl rfl rfl rfl rfl rfl rfl, nS rfl rfl rfl rfl rfl rfl rfl rfl rfl, nS rfl rfl rfl rfl rfl rfl rfl rfl rfl, nS rfl rfl rfl rfl rfl rfl rfl rfl rfl, nS rfl rfl rfl rfl rfl rfl rfl rfl rfl, nS rfl rfl rfl rfl rfl rfl rfl rfl rfl, nS rfl rfl rfl rfl rfl rfl rfl rfl rfl, nS rfl rfl rfl rfl rfl rfl rfl rfl rfl, nS rfl rfl rfl rfl rfl rfl rfl rfl rfl, nS rfl rfl rfl rfl rfl rfl rfl rfl rfl, nS rfl rfl rfl rfl rfl rfl rfl rfl rfl, nS rfl rfl rfl rfl rfl rfl rfl rfl rfl, nS rfl rfl rfl rfl rfl rfl rfl rfl rfl, nS rfl rfl rfl rfl rfl rfl rfl rfl rfl, nS rfl rfl rfl rfl rfl rfl rfl rfl rfl, nS rfl rfl rfl rfl rfl rfl rfl rfl rfl, nS rfl rfl rfl rfl rfl rfl rfl rfl rfl, nR rfl rfl rfl rfl rfl (by exact ovE (pk rfl rfl rfl) rfl), nR rfl rfl rfl rfl rfl (by exact ovE (asg rfl) rfl), trivial⟩) (fun a w hS => ?_) ho hcl (fun m hm => (List.not_mem_nil hm).elim) hA hst
                  replace hS := hS.env2 (e' := [(0, .slice A2179 l_2178.length c2180), (1, .slice A2184 codes2183.length c2185), (2, ptr b2189 0), (8, .int .i64 r2188.At_), (9, .int .i64 v2240), (10, .int .i64 length2241), (11, .bool true), (12, .int .i64 i2245)]) ⟨rfl, rfl, rfl, rfl, rfl, rfl, rfl, rfl, trivial⟩
                  refine blk_n (then_n ?_)
                  refine wp_region_list ?_
                  refine st1 hS (mv rfl) rfl fun a w hS => ?_
                  refine st1 hS (bin rfl rfl rfl) rfl fun a w hS => ?_
                  refine st1x (v := Value.int .i64) hS (asg rfl) rfl fun i2254 a w hz hS => ?_
                  have hM := lt_to hz hM; clear hz
                  refine wpList_nil ?_
                  refine then_n ?_
                  exact hJ2264 _ _ ⟨true, i2254, hS.to [0] (by kernel_rfl) ⟨rfl, rfl, rfl, rfl, rfl, rfl, rfl, rfl, trivial⟩, hM⟩
                · refine ifB (b := (decide ((rd l_2178 i2245) > length2241))) hM (fun hb2255 hM => ?_) (fun hb2255 hM => ?_)
                  · obtain ⟨hk2257, hM⟩ := wp_chk hM
                    obtain ⟨hk2259, hM⟩ := wp_chk hM
                    obtain ⟨begins2260, hz2261⟩ : ∃ x, x = ((ishr .i64 (rd codes2183 i2245) (wr .u64 (w64 ((rd l_2178 i2245) - length2241)))) == v2240) := ⟨_, rfl⟩
                    replace hM := lt_to hz2261 hM
                    refine draw_begin (vals := [some (.bool false), some (.bool false), some (.slice A2179 l_2178.length c2180), some (.int .i64 i2245), some (slp A2179 (Int.toNat i2245 * 1)), some (.int .i64 (rd l_2178 i2245)), some (.int .i64 length2241), some (.bool true), some (.bool true), some (.slice A2184 codes2183.length c2185), some (.int .i64 i2245), some (slp A2184 (Int.toNat i2245 * 1)), some (.int .i64 (rd codes2183 i2245)), some (.slice A2179 l_2178.length c2180), some (.int .i64 i2245), some (slp A2179 (Int.toNat i2245 * 1)), some (.int .i64 (rd l_2178 i2245)), some (.int .i64 length2241), some (.int .i64 (w64 ((rd l_2178 i2245) - length2241))), some (.int .u64 (wr .u64 (w64 ((rd l_2178 i2245) - length2241)))), some (.int .i64 (ishr .i64 (rd codes2183 i2245) (wr .u64 (w64 ((rd l_2178 i2245) - length2241))))), some (.int .i64 v2240), some (.bool ((ishr .i64 (rd codes2183 i2245) (wr .u64 (w64 ((rd l_2178 i2245) - length2241)))) == v2240)), some (.bool ((ishr .i64 (rd codes2183 i2245) (wr .u64 (w64 ((rd l_2178 i2245) - length2241)))) == v2240)), some (.bool ((ishr .i64 (rd codes2183 i2245) (wr .u64 (w64 ((rd l_2178 i2245) - length2241)))) == v2240)), some (.bool begins2260)]) hS mixed rfl ?_
                    intro l w ho hcl hA hst
                    refine phaseE (vals := [some (.bool false), some (.bool false), some (.slice A2179 l_2178.length c2180), some (.int .i64 i2245), some (slp A2179 (Int.toNat i2245 * 1)), some (.int .i64 (rd l_2178 i2245)), some (.int .i64 length2241), some (.bool true), some (.bool true), some (.slice A2184 codes2183.length c2185), some (.int .i64 i2245), some (slp A2184 (Int.toNat i2245 * 1)), some (.int .i64 (rd codes2183 i2245)), some (.slice A2179 l_2178.length c2180), some (.int .i64 i2245), some (slp A2179 (Int.toNat i2245 * 1)), some (.int .i64 (rd l_2178 i2245)), some (.int .i64 length2241), some (.int .i64 (w64 ((rd l_2178 i2245) - length2241))), some (.int .u64 (wr .u64 (w64 ((rd l_2178 i2245) - length2241)))), some (.int .i64 (ishr .i64 (rd codes2183 i2245) (wr .u64 (w64 ((rd l_2178 i2245) - length2241))))), some (.int .i64 v2240), some (.bool ((ishr .i64 (rd codes2183 i2245) (wr .u64 (w64 ((rd l_2178 i2245) - length2241)))) == v2240)), some (.bool ((ishr .i64 (rd codes2183 i2245) (wr .u64 (w64 ((rd l_2178 i2245) - length2241)))) == v2240)), some (.bool ((ishr .i64 (rd codes2183 i2245) (wr .u64 (w64 ((rd l_2178 i2245) - length2241)))) == v2240)), some (.bool begins2260)]) [] [0, 1, 2, 3, 4, 5, 6, 7, 8, 9, 10, 11, 12, 13, 14, 15, 16, 17, 18, 19, 20, 21, 22, 23, 24, 25] rfl rfl rfl (by exact ⟨nR rfl rfl rfl rfl rfl (by exact ovE (mv rfl) (congrArg Value.bool hb2253)), nR rfl rfl rfl rfl rfl (by exact ovE (mv rfl) rfl), nW rfl rfl rfl rfl rfl rfl rfl rfl (by exact ovE (mv rfl) rfl), nW rfl rfl rfl rfl rfl rfl rfl rfl (by exact ovE (mv rfl) rfl), nW rfl rfl rfl rfl rfl rfl rfl rfl (by exact ovE (ixV rfl rfl Tryd.runUnderlying67 Tryd.sizeOf3 hr2181.wk (fun _ => rfl) rfl hk2248) rfl), nW rfl rfl rfl rfl rfl rfl rfl rfl (by exact ovE (ldV0 rfl hr2181.wk (fun _ => rfl) hk2248 rfl Tryd.isAgg3) rfl), nW rfl rfl rfl rfl rfl rfl rfl rfl (by exact ovE (mv rfl) rfl), nW rfl rfl rfl rfl rfl rfl rfl rfl (by exact ovE (bin rfl rfl rfl) (congrArg Value.bool hb2255)), nW rfl rfl rfl rfl rfl rfl rfl rfl (by exact ovE (mv rfl) rfl), nW rfl rfl rfl rfl rfl rfl rfl rfl (by exact ovE (mv rfl) rfl), nW rfl rfl rfl rfl rfl rfl rfl rfl (by exact ovE (mv rfl) rfl), nW rfl rfl rfl rfl rfl rfl rfl rfl (by exact ovE (ixV rfl rfl Tryd.runUnderlying67 Tryd.sizeOf3 hr2186.wk (fun _ => rfl) rfl hk2257) rfl), nW rfl rfl rfl rfl rfl rfl rfl rfl (by exact ovE (ldV0 rfl hr2186.wk (fun _ => rfl) hk2257 rfl Tryd.isAgg3) rfl), nW rfl rfl rfl rfl rfl rfl rfl rfl (by exact ovE (mv rfl) rfl), nW rfl rfl rfl rfl rfl rfl rfl rfl (by exact ovE (mv rfl) rfl), nW rfl rfl rfl rfl rfl rfl rfl rfl (by exact ovE (ixV rfl rfl Tryd.runUnderlying67 Tryd.sizeOf3 hr2181.wk (fun _ => rfl) rfl hk2248) rfl), nW rfl rfl rfl rfl rfl rfl rfl rfl (by exact ovE (ldV0 rfl hr2181.wk (fun _ => rfl) hk2248 rfl Tryd.isAgg3) rfl), nW rfl rfl rfl rfl rfl rfl rfl rfl (by exact ovE (mv rfl) rfl), nW rfl rfl rfl rfl rfl rfl rfl rfl (by exact ovE (bin rfl rfl rfl) rfl), nW rfl rfl rfl rfl rfl rfl rfl rfl (by exact ovE (cvi rfl Tryd.runUnderlying3 Tryd.runUnderlying37) rfl), nW rfl rfl rfl rfl rfl rfl rfl rfl (by exact ovE (shr rfl rfl hk2259) rfl), nW rfl rfl rfl rfl rfl rfl rfl rfl (by exact ovE (mv rfl) rfl), nW rfl rfl rfl rfl rfl rfl rfl rfl (by exact ovE (bin rfl rfl rfl) rfl), nW rfl rfl rfl rfl rfl rfl rfl rfl (by exact ovE (pk rfl rfl rfl) rfl), nR rfl rfl rfl rfl rfl (by exact ovE (pk rfl rfl rfl) rfl), nR rfl rfl rfl rfl rfl (by exact ovE (asg rfl) (congrArg (Value.bool) hz2261.symm)), trivial⟩) (fun a w hS => ?_) ho hcl (fun m hm => (List.not_mem_nil hm).elim) hA hst
                    replace hS := hS.env2 (e' := [(0, .slice A2179 l_2178.length c2180), (1, .slice A2184 codes2183.length c2185), (2, ptr b2189 0), (8, .int .i64 r2188.At_), (9, .int .i64 v2240), (10, .int .i64 length2241), (11, .bool begins2260), (12, .int .i64 i2245)]) ⟨rfl, rfl, rfl, rfl, rfl, rfl, rfl, rfl, trivial⟩
                    refine blk_n (then_n ?_)
                    refine wp_region_list ?_
                    refine st1 hS (mv rfl) rfl fun a w hS => ?_
                    refine st1 hS (bin rfl rfl rfl) rfl fun a w hS => ?_
                    refine st1x (v := Value.int .i64) hS (asg rfl) rfl fun i2262 a w hz hS => ?_
                    have hM := lt_to hz hM; clear hz
                    refine wpList_nil ?_
                    refine then_n ?_
                    exact hJ2264 _ _ ⟨begins2260, i2262, hS.to [0] (by kernel_rfl) ⟨rfl, rfl, rfl, rfl, rfl, rfl, rfl, rfl, trivial⟩, hM⟩
                  · refine draw_begin (vals := [some (.bool false), some (.bool false), some (.slice A2179 l_2178.length c2180), some (.int .i64 i2245), some (slp A2179 (Int.toNat i2245 * 1)), some (.int .i64 (rd l_2178 i2245)), some (.int .i64 length2241), some (.bool false), some (.bool false), some (undef), some (undef), some (undef), some (undef), some (undef), some (undef), some (undef), some (undef), some (undef), some (undef), some (undef), some (undef), some (undef), some (undef), some (.bool false), some (.bool false), some (.bool false)]) hS mixed rfl ?_
                    intro l w ho hcl hA hst
                    refine phaseE (vals := [some (.bool false), some (.bool false), some (.slice A2179 l_2178.length c2180), some (.int .i64 i2245), some (slp A2179 (Int.toNat i2245 * 1)), some (.int .i64 (rd l_2178 i2245)), some (.int .i64 length2241), some (.bool false), some (.bool false), some (undef), some (undef), some (undef), some (undef), some (undef), some (undef), some (undef), some (undef), some (undef), some (undef), some (undef), some (undef), some (undef), some (undef), some (.bool false), some (.bool false), some (.bool false)]) [] [0, 1, 2, 3, 4, 5, 6, 7, 8, 9, 10, 11, 12, 13, 14, 15, 16, 17, 18, 19, 20, 21, 22, 23, 24, 25] rfl rfl rfl (by exact ⟨nR rfl rfl rfl rfl rfl (by exact ovE (mv rfl) (congrArg Value.bool hb2253)), nR rfl rfl rfl rfl rfl (by exact ovE (mv rfl) rfl), nW rfl rfl rfl rfl rfl rfl rfl rfl (by exact ovE (mv rfl) rfl), nW rfl rfl rfl rfl rfl rfl rfl rfl (by exact ovE (mv rfl) rfl), nW rfl rfl rfl rfl rfl rfl rfl rfl (by exact ovE (ixV rfl rfl Tryd.runUnderlying67 Tryd.sizeOf3 hr2181.wk (fun _ => rfl) rfl hk2248) rfl), nW rfl rfl rfl rfl rfl rfl rfl rfl (by exact ovE (ldV0 rfl hr2181.wk (fun _ => rfl) hk2248 rfl Tryd.isAgg3) rfl), nW rfl rfl rfl rfl rfl rfl rfl rfl (by exact ovE (mv rfl) rfl), nW rfl rfl rfl rfl rfl rfl rfl rfl (by exact ovE (bin rfl rfl rfl) (congrArg Value.bool hb2255)), nW rfl rfl rfl rfl rfl rfl rfl rfl (by exact ovE (mv rfl) rfl), nS rfl rfl rfl rfl rfl rfl rfl rfl rfl, nS rfl rfl rfl rfl rfl rfl rfl rfl rfl, nS rfl rfl rfl rfl rfl rfl rfl rfl rfl, nS rfl rfl rfl rfl rfl rfl rfl rfl rfl, nS rfl rfl rfl rfl rfl rfl rfl rfl rfl, nS rfl rfl rfl rfl rfl rfl rfl rfl rfl, nS rfl rfl rfl rfl rfl rfl rfl rfl rfl, nS rfl rfl rfl rfl rfl rfl rfl rfl rfl, nS rfl rfl rfl rfl rfl rfl rfl rfl rfl, nS rfl rfl rfl rfl rfl rfl rfl rfl rfl, nS rfl rfl rfl rfl rfl rfl rfl rfl rfl, nS rfl rfl rfl rfl rfl rfl rfl rfl rfl, nS rfl rfl rfl rfl rfl rfl rfl rfl rfl, nS rfl rfl rfl rfl rfl rfl rfl rfl rfl, nW rfl rfl rfl rfl rfl rfl rfl rfl (by exact ovE (pk rfl rfl rfl) rfl), nR rfl rfl rfl rfl rfl (by exact ovE (pk rfl rfl rfl) rfl), nR rfl rfl rfl rfl rfl (by exact ovE (asg rfl) rfl), trivial⟩) (fun a w hS => ?_) ho hcl (fun m hm => (List.not_mem_nil hm).elim) hA hst
                    replace hS := hS.env2 (e' := [(0, .slice A2179 l_2178.length c2180), (1, .slice A2184 codes2183.length c2185), (2, ptr b2189 0), (8, .int .i64 r2188.At_), (9, .int .i64 v2240), (10, .int .i64 length2241), (11, .bool false), (12, .int .i64 i2245)]) ⟨rfl, rfl, rfl, rfl, rfl, rfl, rfl, rfl, trivial⟩
                    refine blk_n (then_n ?_)
                    refine wp_region_list ?_
                    refine st1 hS (mv rfl) rfl fun a w hS => ?_
                    refine st1 hS (bin rfl rfl rfl) rfl fun a w hS => ?_
                    refine st1x (v := Value.int .i64) hS (asg rfl) rfl fun i2263 a w hz hS => ?_
                    have hM := lt_to hz hM; clear hz
                    refine wpList_nil ?_
                    refine then_n ?_
                    exact hJ2264 _ _ ⟨false, i2263, hS.to [0] (by kernel_rfl) ⟨rfl, rfl, rfl, rfl, rfl, rfl, rfl, rfl, trivial⟩, hM⟩
            · refine wp_exit ?_
              refine then_ex (then_ex (blk_same (then_n ?_)))
              exact hJ2266 _ _ ⟨begins2244, hS.to [0] (by kernel_rfl) ⟨rfl, rfl, rfl, rfl, rfl, rfl, rfl, trivial⟩, hM⟩
        · intro a w hI
          obtain ⟨begins2265, hS, hM⟩ := hI
          rw [mortiseref06_Next.j3] at hM
          refine wp_seq ?_
          refine wp_seq ?_
          refine wp_region_list ?_
          refine st1 hS (mv rfl) rfl fun a w hS => ?_
          refine st1 hS (un rfl rfl) rfl fun a w hS => ?_
          refine wpList_nil ?_
          refine then_n ?_
          refine s_cond hS rfl hM (fun hb2267 hM => ?_) (fun hb2267 hM => ?_)
          · refine wp_seq ?_
            refine wp_region_list ?_
            refine st1 hS (mv rfl) rfl fun a w hS => ?_
            refine st1 hS (mv rfl) rfl fun a w hS => ?_
            refine st1 hS (nck rfl) rfl fun a w hS => ?_
            refine st1 hS (fad rfl Tryd.runUnderlying49 rfl Tryd.sizeOf3 rfl) rfl fun a w hS => ?_
            refine sto 0 ([str r2188.S_, .int .i64 r2188.At_]) hS rfl rfl hB2239 rfl rfl rfl rfl Tryd.sizeOf3 fun w f2268 hB2269 hS => ?_
            refine wpList_nil ?_
            refine then_n ?_
            refine wp_seq ?_
            refine wp_region_list ?_
            refine st1 hS (asg rfl) rfl fun a w hS => ?_
            refine st1 hS (asg rfl) rfl fun a w hS => ?_
            refine wpList_nil ?_
            refine then_n ?_
            refine wp_ret ?_
            refine then_ret (blk_ret (then_ret (then_ret (blk_ret (then_ret ?_)))))
            exact s_ret (rs := [6, 7]) hS rfl rfl (hret (0 : Int) (3 : Int) r2188.At_ f2268 w hM hB2269 (hS.st.pick [0] (by kernel_rfl)))
          · refine wp_skip ?_
            refine then_n ?_
            refine wp_seq ?_
            refine wp_region_list ?_
            refine st1 hS (mv rfl) rfl fun a w hS => ?_
            refine s_call hS rfl Tryd.call40 (mortiseref05_Reader_Bits_c hG K (T_mortiseref05_Reader.mk r2188.S_ at_2237) (1 : Int) b2189 f2238 hB2239 (hS.st.part 1 [0] (by kernel_rfl)) (wp_bind hM) (fun x2270 x2271 at_2272 f2273 w hM h2274 hst => s_back hS.ev hst.appF rfl fun hS => ?_))
            replace hS : Ss _ _ _ H [f2273] F _ _ := hS
            refine st1 hS (mv rfl) rfl fun a w hS => ?_
            refine st1 hS (ex rfl rfl) rfl fun a w hS => ?_
            refine st1 hS (ex rfl rfl) rfl fun a w hS => ?_
            refine st1 hS (asg rfl) rfl fun a w hS => ?_
            refine st1 hS (asg rfl) rfl fun a w hS => ?_
            refine wpList_nil ?_
            refine then_n ?_
            refine wp_seq ?_
            refine wp_seq ?_
            refine wp_region_list ?_
            refine st1 hS (mv rfl) rfl fun a w hS => ?_
            refine st1 hS (bin rfl rfl rfl) rfl fun a w hS => ?_
            refine wpList_nil ?_
            refine then_n ?_
            refine s_cond hS rfl hM (fun hb2275 hM => ?_) (fun hb2275 hM => ?_)
            · refine wp_seq ?_
              refine wp_region_list ?_
              refine st1 hS (mv rfl) rfl fun a w hS => ?_
              refine st1 hS (mv rfl) rfl fun a w hS => ?_
              refine st1 hS (nck rfl) rfl fun a w hS => ?_
              refine st1 hS (fad rfl Tryd.runUnderlying49 rfl Tryd.sizeOf3 rfl) rfl fun a w hS => ?_
              refine sto 0 ([str r2188.S_, .int .i64 r2188.At_]) hS rfl rfl h2274 rfl rfl rfl rfl Tryd.sizeOf3 fun w f2276 hB2277 hS => ?_
              refine wpList_nil ?_
              refine then_n ?_
              refine wp_seq ?_
              refine wp_region_list ?_
              refine st1 hS (mv rfl) rfl fun a w hS => ?_
              refine st1 hS (asg rfl) rfl fun a w hS => ?_
              refine st1 hS (asg rfl) rfl fun a w hS => ?_
              refine wpList_nil ?_
              refine then_n ?_
              refine wp_ret ?_
              refine then_ret (blk_ret (then_ret (then_ret (blk_ret (then_ret ?_)))))
              exact s_ret (rs := [6, 7]) hS rfl rfl (hret (0 : Int) x2271 r2188.At_ f2276 w hM hB2277 (hS.st.pick [0] (by kernel_rfl)))
            · refine wp_skip ?_
              refine then_n ?_
              refine wp_region_list ?_
              refine st1 hS (mv rfl) rfl fun a w hS => ?_
              refine st1 hS (bin rfl rfl rfl) rfl fun a w hS => ?_
              refine st1 hS (mv rfl) rfl fun a w hS => ?_
              refine st1 hS (cvi rfl Tryd.runUnderlying33 Tryd.runUnderlying3) rfl fun a w hS => ?_
              refine st1 hS (bin rfl rfl rfl) rfl fun a w hS => ?_
              refine st1x (v := Value.int .i64) hS (asg rfl) rfl fun v2278 a w hz hS => ?_
              have hM := lt_to hz hM; clear hz
              refine wpList_nil ?_
              refine blk_n (then_n ?_)
              refine wp_region_list ?_
              refine st1 hS (mv rfl) rfl fun a w hS => ?_
              refine st1 hS (bin rfl rfl rfl) rfl fun a w hS => ?_
              refine st1x (v := Value.int .i64) hS (asg rfl) rfl fun length2279 a w hz hS => ?_
              have hM := lt_to hz hM; clear hz
              refine wpList_nil ?_
              refine then_n ?_
              exact hJ2280 _ _ ⟨at_2272, f2273, v2278, length2279, hS.to [0] (by kernel_rfl) ⟨rfl, rfl, rfl, rfl, rfl, rfl, trivial⟩, h2274, hM⟩
      · refine wp_exit ?_
        refine then_ex (then_ex (blk_same (then_n ?_)))
        exact hJ2284 _ _ ⟨at_2237, f2238, hS.to [0] (by kernel_rfl) ⟨rfl, rfl, trivial⟩, hB2239, hM⟩
  · intro a w hI
    obtain ⟨at_2281, f2282, hS, hB2283, hM⟩ := hI
    rw [mortiseref06_Next.j4] at hM
    refine wp_seq ?_
    refine wp_region_list ?_
    refine st1 hS (mv rfl) rfl fun a w hS => ?_
    refine st1 hS (mv rfl) rfl fun a w hS => ?_
    refine st1 hS (nck rfl) rfl fun a w hS => ?_
    refine st1 hS (fad rfl Tryd.runUnderlying49 rfl Tryd.sizeOf3 rfl) rfl fun a w hS => ?_
    refine sto 0 ([str r2188.S_, .int .i64 r2188.At_]) hS rfl rfl hB2283 rfl rfl rfl rfl Tryd.sizeOf3 fun w f2285 hB2286 hS => ?_
    refine wpList_nil ?_
    refine then_n ?_
    refine wp_seq ?_
    refine wp_region_list ?_
    refine st1 hS (asg rfl) rfl fun a w hS => ?_
    refine st1 hS (asg rfl) rfl fun a w hS => ?_
    refine wpList_nil ?_
    refine then_n ?_
    refine wp_ret ?_
    exact s_ret (rs := [6, 7]) hS rfl rfl (hret (0 : Int) (3 : Int) r2188.At_ f2285 w hM hB2286 (hS.st.pick [0] (by kernel_rfl)))

theorem mortiseref07_Length_c {H : Imm} {F : List Frag} {w : World} {R : Ending → World → Prop} {kr : (Int × Int) → Prop} {kp : Value → Prop} (hG : Gl H) (K : Nat) (symbol2338 : Int)
    (hS : St w H [] F) (hm : (mortiseref07_Length.m K symbol2338).wp kr kp)
    (hret : ∀ (x2346 : Int) (x2347 : Int) (w : World), kr (x2346, x2347) → St w H [] F → R (.returned (.tuple ⟨[.int .i64 x2346, .int .i64 x2347]⟩)) w) :
    Calls Tryd.prog 52 ⟨[.int .i64 symbol2338]⟩ w R := by
  refine enter Tryd.func52 rfl Tryd.ntmps52 rfl hS fun a w hS => ?_
  have hM := hm; clear hm
  rw [mortiseref07_Length.m] at hM
  refine wp_seq ?_
  refine wp_region_list ?_
  refine st1 hS (asg rfl) rfl fun a w hS => ?_
  refine st1 hS (asg rfl) rfl fun a w hS => ?_
  refine wpList_nil ?_
  refine then_n ?_
  refine wp_seq ?_
  refine wp_seq ?_
  refine wp_region_list ?_
  refine st1 hS (mv rfl) rfl fun a w hS => ?_
  refine st1 hS (bin rfl rfl rfl) rfl fun a w hS => ?_
  refine wpList_nil ?_
  refine then_n ?_
  refine s_cond hS rfl hM (fun hb2339 hM => ?_) (fun hb2339 hM => ?_)
  · refine wp_seq ?_
    refine wp_region_list ?_
    refine st1 hS (asg rfl) rfl fun a w hS => ?_
    refine st1 hS (asg rfl) rfl fun a w hS => ?_
    refine wpList_nil ?_
    refine then_n ?_
    refine wp_ret ?_
    refine then_ret ?_
    exact s_ret (rs := [2, 3]) hS rfl rfl (hret (258 : Int) (0 : Int) w hM (hS.st.pick [] (by kernel_rfl)))
  · refine wp_skip ?_
    refine then_n ?_
    refine wp_seq ?_
    refine wp_region_list ?_
    refine st1 hS (mv rfl) rfl fun a w hS => ?_
    refine st1 hS (bin rfl rfl rfl) rfl fun a w hS => ?_
    refine st1x (v := Value.int .i64) hS (asg rfl) rfl fun k_2340 a w hz hS => ?_
    have hM := lt_to hz hM; clear hz
    refine wpList_nil ?_
    refine then_n ?_
    refine wp_seq ?_
    refine wp_seq ?_
    refine wp_region_list ?_
    refine st1 hS (mv rfl) rfl fun a w hS => ?_
    refine st1 hS (bin rfl rfl rfl) rfl fun a w hS => ?_
    refine wpList_nil ?_
    refine then_n ?_
    refine s_cond hS rfl hM (fun hb2341 hM => ?_) (fun hb2341 hM => ?_)
    · refine wp_seq ?_
      refine wp_region_list ?_
      refine st1 hS (mv rfl) rfl fun a w hS => ?_
      refine st1 hS (bin rfl rfl rfl) rfl fun a w hS => ?_
      refine st1x (v := Value.int .i64) hS (asg rfl) rfl fun v2342 a w hz hS => ?_
      have hM := lt_to hz hM; clear hz
      refine st1 hS (asg rfl) rfl fun a w hS => ?_
      refine wpList_nil ?_
      refine then_n ?_
      refine wp_ret ?_
      refine then_ret ?_
      exact s_ret (rs := [2, 3]) hS rfl rfl (hret v2342 (0 : Int) w hM (hS.st.pick [] (by kernel_rfl)))
    · refine wp_skip ?_
      refine then_n ?_
      refine wp_seq ?_
      refine wp_region_list ?_
      refine st1 hS (mv rfl) rfl fun a w hS => ?_
      refine st1 hS (quo rfl rfl rfl) rfl fun a w hS => ?_
      refine st1 hS (bin rfl rfl rfl) rfl fun a w hS => ?_
      refine st1x (v := Value.int .i64) hS (asg rfl) rfl fun more2343 a w hz hS => ?_
      have hM := lt_to hz hM; clear hz
      refine wpList_nil ?_
      refine then_n ?_
      refine wp_seq ?_
      refine wp_region_list ?_
      refine st1 hS (mv rfl) rfl fun a w hS => ?_
      refine st1 hS (rem rfl rfl rfl) rfl fun a w hS => ?_
      refine st1 hS (bin rfl rfl rfl) rfl fun a w hS => ?_
      refine st1 hS (mv rfl) rfl fun a w hS => ?_
      refine st1 hS (cvi rfl Tryd.runUnderlying3 Tryd.runUnderlying37) rfl fun a w hS => ?_
      obtain ⟨hk2344, hM⟩ := wp_chk hM
      refine st1 hS (shl rfl rfl hk2344) rfl fun a w hS => ?_
      refine st1 hS (bin rfl rfl rfl) rfl fun a w hS => ?_
      refine st1 hS (mv rfl) rfl fun a w hS => ?_
      refine st1x (v := Value.int .i64) hS (asg rfl) rfl fun v2345 a w hz hS => ?_
      have hM := lt_to hz hM; clear hz
      refine st1 hS (asg rfl) rfl fun a w hS => ?_
      refine wpList_nil ?_
      refine then_n ?_
      refine wp_ret ?_
      exact s_ret (rs := [2, 3]) hS rfl rfl (hret v2345 more2343 w hM (hS.st.pick [] (by kernel_rfl)))

theorem mortiseref07_Distance_c {H : Imm} {F : List Frag} {w : World} {R : Ending → World → Prop} {kr : (Int × Int) → Prop} {kp : Value → Prop} (hG : Gl H) (K : Nat) (symbol2363 : Int)
    (hS : St w H [] F) (hm : (mortiseref07_Distance.m K symbol2363).wp kr kp)
    (hret : ∀ (x2369 : Int) (x2370 : Int) (w : World), kr (x2369, x2370) → St w H [] F → R (.returned (.tuple ⟨[.int .i64 x2369, .int .i64 x2370]⟩)) w) :
    Calls Tryd.prog 53 ⟨[.int .i64 symbol2363]⟩ w R := by
  refine enter Tryd.func53 rfl Tryd.ntmps53 rfl hS fun a w hS => ?_
  have hM := hm; clear hm
  rw [mortiseref07_Distance.m] at hM
  refine wp_seq ?_
  refine wp_region_list ?_
  refine st1 hS (asg rfl) rfl fun a w hS => ?_
  refine st1 hS (asg rfl) rfl fun a w hS => ?_
  refine wpList_nil ?_
  refine then_n ?_
  refine wp_seq ?_
  refine wp_seq ?_
  refine wp_region_list ?_
  refine st1 hS (mv rfl) rfl fun a w hS => ?_
  refine st1 hS (bin rfl rfl rfl) rfl fun a w hS => ?_
  refine wpList_nil ?_
  refine then_n ?_
  refine s_cond hS rfl hM (fun hb2364 hM => ?_) (fun hb2364 hM => ?_)
  · refine wp_seq ?_
    refine wp_region_list ?_
    refine st1 hS (mv rfl) rfl fun a w hS => ?_
    refine st1 hS (bin rfl rfl rfl) rfl fun a w hS => ?_
    refine st1x (v := Value.int .i64) hS (asg rfl) rfl fun v2365 a w hz hS => ?_
    have hM := lt_to hz hM; clear hz
    refine st1 hS (asg rfl) rfl fun a w hS => ?_
    refine wpList_nil ?_
    refine then_n ?_
    refine wp_ret ?_
    refine then_ret ?_
    exact s_ret (rs := [2, 3]) hS rfl rfl (hret v2365 (0 : Int) w hM (hS.st.pick [] (by kernel_rfl)))
  · refine wp_skip ?_
    refine then_n ?_
    refine wp_seq ?_
    refine wp_region_list ?_
    refine st1 hS (mv rfl) rfl fun a w hS => ?_
    refine st1 hS (quo rfl rfl rfl) rfl fun a w hS => ?_
    refine st1 hS (bin rfl rfl rfl) rfl fun a w hS => ?_
    refine st1x (v := Value.int .i64) hS (asg rfl) rfl fun more2366 a w hz hS => ?_
    have hM := lt_to hz hM; clear hz
    refine wpList_nil ?_
    refine then_n ?_
    refine wp_seq ?_
    refine wp_region_list ?_
    refine st1 hS (mv rfl) rfl fun a w hS => ?_
    refine st1 hS (rem rfl rfl rfl) rfl fun a w hS => ?_
    refine st1 hS (bin rfl rfl rfl) rfl fun a w hS => ?_
    refine st1 hS (mv rfl) rfl fun a w hS => ?_
    refine st1 hS (cvi rfl Tryd.runUnderlying3 Tryd.runUnderlying37) rfl fun a w hS => ?_
    obtain ⟨hk2367, hM⟩ := wp_chk hM
    refine st1 hS (shl rfl rfl hk2367) rfl fun a w hS => ?_
    refine st1 hS (bin rfl rfl rfl) rfl fun a w hS => ?_
    refine st1 hS (mv rfl) rfl fun a w hS => ?_
    refine st1x (v := Value.int .i64) hS (asg rfl) rfl fun v2368 a w hz hS => ?_
    have hM := lt_to hz hM; clear hz
    refine st1 hS (asg rfl) rfl fun a w hS => ?_
    refine wpList_nil ?_
    refine then_n ?_
    refine wp_ret ?_
    exact s_ret (rs := [2, 3]) hS rfl rfl (hret v2368 more2366 w hM (hS.st.pick [] (by kernel_rfl)))

theorem mortiseref07_state_match_c {H : Imm} {F : List Frag} {w : World} {R : Ending → World → Prop} {kr : (Int × Int × (List Int)) → Prop} {kp : Value → Prop} (hG : Gl H) (K : Nat) (s2313 : T_mortiseref07_state) (symbol2324 : Int) (distances2325 : T_mortiseref07_code) (b2314 : Nat) (f2315 : Frag) (b2317 : Nat) (f2318 : Frag) (A2320 : Option Addr) (c2321 : Nat) (f2322 : Frag) (A2326 : Option Addr) (c2327 : Nat) (A2330 : Option Addr) (c2331 : Nat) (hB2316 : Blk f2315 b2314 ([ptr b2317 0, .slice A2320 s2313.out_.length c2321, .int .i64 s2313.limit_]) 51) (hB2319 : Blk f2318 b2317 ([str s2313.r_.S_, .int .i64 s2313.r_.At_]) 49) (hV2323 : Vec 5 (ci .u8) 1 A2320 s2313.out_ c2321 f2322) (hr2328 : Rdl H [] F (ci .i64) A2326 distances2325.l_) (hc2329 : distances2325.l_.length ≤ c2327) (hr2332 : Rdl H [] F (ci .i64) A2330 distances2325.codes_) (hc2333 : distances2325.codes_.length ≤ c2331)
    (hS : St w H [f2315, f2318, f2322] F) (hm : (mortiseref07_state_match.m K s2313 symbol2324 distances2325).wp kr kp)
    (hret : ∀ (x2433 : Int) (at_2434 : Int) (f2435 : Frag) (A2437 : Option Addr) (c2438 : Nat) (out2439 : (List Int)) (f2440 : Frag) (f2442 : Frag) (w : World), kr (x2433, at_2434, out2439) → (Blk f2435 b2317 ([str s2313.r_.S_, .int .i64 at_2434]) 49) → (Vec 5 (ci .u8) 1 A2437 out2439 c2438 f2440) → (Blk f2442 b2314 ([ptr b2317 0, .slice A2437 out2439.length c2438, .int .i64 s2313.limit_]) 51) → St w H [f2442, f2435, f2440] F → R (.returned (.int .i64 x2433)) w) :
    Calls Tryd.prog 44 ⟨[ptr b2314 0, .int .i64 symbol2324, .agg ⟨[.slice A2326 distances2325.l_.length c2327, .slice A2330 distances2325.codes_.length c2331]⟩]⟩ w R := by
  refine enter Tryd.func44 rfl Tryd.ntmps44 rfl hS fun a w hS => ?_
  have hM := hm; clear hm
  rw [mortiseref07_state_match.m] at hM
  refine wp_seq ?_
  refine wp_region_list ?_
  refine bx ([.slice A2326 distances2325.l_.length c2327, .slice A2330 distances2325.codes_.length c2331]) hS rfl rfl rfl fun w b2334 f2335 hB2336 hS => ?_
  refine st1 hS (asg rfl) rfl fun a w hS => ?_
  refine wpList_nil ?_
  refine then_n ?_
  refine wp_seq ?_
  refine wp_seq ?_
  refine wp_region_list ?_
  refine st1 hS (mv rfl) rfl fun a w hS => ?_
  refine st1 hS (bin rfl rfl rfl) rfl fun a w hS => ?_
  refine wpList_nil ?_
  refine then_n ?_
  refine s_cond hS rfl hM (fun hb2337 hM => ?_) (fun hb2337 hM => ?_)
  · refine wp_seq ?_
    refine wp_region_list ?_
    refine st1 hS (asg rfl) rfl fun a w hS => ?_
    refine wpList_nil ?_
    refine then_n ?_
    refine wp_ret ?_
    refine then_ret ?_
    exact s_ret (rs := [6]) hS rfl rfl (hret (3 : Int) s2313.r_.At_ f2318 A2320 c2321 s2313.out_ f2322 f2315 w hM hB2319 hV2323 hB2316 (hS.st.pick [1, 2, 3] (by kernel_rfl)))
  · refine wp_skip ?_
    refine then_n ?_
    refine wp_seq ?_
    refine wp_region_list ?_
    refine st1 hS (mv rfl) rfl fun a w hS => ?_
    refine s_call hS rfl Tryd.call52 (mortiseref07_Length_c hG K symbol2324 (hS.st.part 0 [0, 1, 2, 3] (by kernel_rfl)) (wp_bind hM) (fun x2348 x2349 w hM  hst => s_back hS.ev hst.appF rfl fun hS => ?_))
    replace hS : Ss _ _ _ H [f2335, f2315, f2318, f2322] F _ _ := hS
    refine st1 hS (mv rfl) rfl fun a w hS => ?_
    refine st1 hS (ex rfl rfl) rfl fun a w hS => ?_
    refine st1 hS (ex rfl rfl) rfl fun a w hS => ?_
    refine st1 hS (asg rfl) rfl fun a w hS => ?_
    refine st1 hS (asg rfl) rfl fun a w hS => ?_
    refine wpList_nil ?_
    refine then_n ?_
    refine wp_seq ?_
    refine wp_region_list ?_
    refine st1 hS (mv rfl) rfl fun a w hS => ?_
    refine st1 hS (mv rfl) rfl fun a w hS => ?_
    refine st1 hS (mv rfl) rfl fun a w hS => ?_
    refine s_call hS rfl Tryd.call27 (mortiseref07_state_bits_c hG K s2313 x2349 x2348 b2314 f2315 b2317 f2318 A2320 c2321 f2322 hB2316 hB2319 hV2323 (hS.st.part 3 [1, 2, 3, 0] (by kernel_rfl)) (wp_bind hM) (fun x2350 x2351 at_2352 f2353 w hM h2354 hst => s_back hS.ev hst.appF rfl fun hS => ?_))
    replace hS : Ss _ _ _ H [f2315, f2353, f2322, f2335] F _ _ := hS
    refine st1 hS (mv rfl) rfl fun a w hS => ?_
    refine st1 hS (ex rfl rfl) rfl fun a w hS => ?_
    refine st1 hS (ex rfl rfl) rfl fun a w hS => ?_
    refine st1 hS (asg rfl) rfl fun a w hS => ?_
    refine st1 hS (asg rfl) rfl fun a w hS => ?_
    refine wpList_nil ?_
    refine then_n ?_
    refine wp_seq ?_
    refine wp_seq ?_
    refine wp_region_list ?_
    refine st1 hS (mv rfl) rfl fun a w hS => ?_
    refine st1 hS (bin rfl rfl rfl) rfl fun a w hS => ?_
    refine wpList_nil ?_
    refine then_n ?_
    refine s_cond hS rfl hM (fun hb2355 hM => ?_) (fun hb2355 hM => ?_)
    · refine wp_seq ?_
      refine wp_region_list ?_
      refine st1 hS (mv rfl) rfl fun a w hS => ?_
      refine st1 hS (asg rfl) rfl fun a w hS => ?_
      refine wpList_nil ?_
      refine then_n ?_
      refine wp_ret ?_
      refine then_ret ?_
      exact s_ret (rs := [6]) hS rfl rfl (hret x2351 at_2352 f2353 A2320 c2321 s2313.out_ f2322 f2315 w hM h2354 hV2323 hB2316 (hS.st.pick [0, 1, 2] (by kernel_rfl)))
    · refine wp_skip ?_
      refine then_n ?_
      refine wp_seq ?_
      refine draw_begin (vals := [some (ptr b2334 0), some (.slice A2326 distances2325.l_.length c2327), some (ptr b2334 1), some (.slice A2330 distances2325.codes_.length c2331), some (ptr b2314 0), some (ptr b2314 0), some (ptr b2314 0), some (ptr b2317 0), none, none, none, none, none, none]) hS mixed rfl ?_
      intro l w ho hcl hA hst
      refine phase' (vals := [some (ptr b2334 0), some (.slice A2326 distances2325.l_.length c2327), some (ptr b2334 1), some (.slice A2330 distances2325.codes_.length c2331), some (ptr b2314 0), some (ptr b2314 0), some (ptr b2314 0), some (ptr b2317 0), none, none, none, none, none, none]) 8 [] [0, 1, 2, 3, 4, 5, 6, 7] rfl rfl rfl rfl (by exact ⟨nR rfl rfl rfl rfl rfl (by exact ovE (fad rfl Tryd.runUnderlying71 rfl Tryd.sizeOf67 rfl) rfl), nR rfl rfl rfl rfl rfl (by exact ovE (ldb 3 rfl hB2336 rfl rfl Tryd.isAgg67) rfl), nR rfl rfl rfl rfl rfl (by exact ovE (fad rfl Tryd.runUnderlying71 rfl Tryd.sizeOf67 rfl) rfl), nR rfl rfl rfl rfl rfl (by exact ovE (ldb 3 rfl hB2336 rfl rfl Tryd.isAgg67) rfl), nR rfl rfl rfl rfl rfl (by exact ovE (mv rfl) rfl), nR rfl rfl rfl rfl rfl (by exact ovE (nck rfl) rfl), nR rfl rfl rfl rfl rfl (by exact ovE (fad rfl Tryd.runUnderlying51 rfl Tryd.sizeOf47 rfl) rfl), nR rfl rfl rfl rfl rfl (by exact ovE (ldb 0 rfl hB2316 rfl rfl Tryd.isAgg47) rfl), trivial⟩) (fun D l a w ho hcl hav hpre hm hE hk hA hst => ?_) ho hcl (fun j hj => (List.not_mem_nil hj).elim) (fun m hm => (List.not_mem_nil hm).elim) List.not_mem_nil hA hst
      have hS := (Ss.mk hE hst).env2 (e' := [(37, .slice A2326 distances2325.l_.length c2327), (39, .slice A2330 distances2325.codes_.length c2331), (43, ptr b2317 0)]) ⟨rfl, rfl, rfl, trivial⟩
      refine op_of_nth rfl ?_
      refine s_call hS rfl Tryd.call43 (mortiseref06_Next_c hG K distances2325.l_ distances2325.codes_ (T_mortiseref05_Reader.mk s2313.r_.S_ at_2352) A2326 c2327 A2330 c2331 b2317 f2353 (hr2328.app _) hc2329 (hr2332.app _) hc2333 h2354 (hS.st.part 1 [1, 0, 2, 3] (by kernel_rfl)) (wp_bind hM) (fun x2356 x2357 at_2358 f2359 w hM h2360 hst => s_back hS.ev hst.appF rfl fun hS => ?_))
      replace hS : Ss _ _ _ H [f2359, f2315, f2322, f2335] F _ _ := hS
      refine wpList_nil (then_n ?_)
      have hcl2 := hcl.cons (k := 8) (nth_get rfl) hpre
      have hmust := must_cons (k := 8) hm (chain (k := 8) hcl (nth_get rfl) hpre [(1, 8), (3, 8), (7, 8), (0, 1), (2, 3), (6, 7), (5, 6), (4, 5)] [] rfl (fun _ h => absurd h List.not_mem_nil))
      replace hst := hS.st
      have hav2 := hav.cons (vals' := [some (ptr b2334 0), some (.slice A2326 distances2325.l_.length c2327), some (ptr b2334 1), some (.slice A2330 distances2325.codes_.length c2331), some (ptr b2314 0), some (ptr b2314 0), some (ptr b2314 0), some (ptr b2317 0), some (.tuple ⟨[.int .i64 x2356, .int .i64 x2357]⟩), some (.tuple ⟨[.int .i64 x2356, .int .i64 x2357]⟩), some (.int .i64 x2356), some (.int .i64 x2357), some (.int .i64 x2356), some (.int .i64 x2357)]) (k := 8) ⟨rfl, rfl, rfl, rfl, rfl, rfl, rfl, rfl, trivial⟩ rfl
      replace hA := (hA.next hav (subV.get (l' := [some (ptr b2334 0), some (.slice A2326 distances2325.l_.length c2327), some (ptr b2334 1), some (.slice A2330 distances2325.codes_.length c2331), some (ptr b2314 0), some (ptr b2314 0), some (ptr b2314 0), some (ptr b2317 0), some (.tuple ⟨[.int .i64 x2356, .int .i64 x2357]⟩), some (.tuple ⟨[.int .i64 x2356, .int .i64 x2357]⟩), some (.int .i64 x2356), some (.int .i64 x2357), some (.int .i64 x2356), some (.int .i64 x2357)]) ⟨rfl, rfl, rfl, rfl, rfl, rfl, rfl, rfl, trivial⟩)).step rfl (nth_get rfl) hk rfl rfl rfl
      clear hm hav
      replace hcl := hcl2
      refine phaseE (vals := [some (ptr b2334 0), some (.slice A2326 distances2325.l_.length c2327), some (ptr b2334 1), some (.slice A2330 distances2325.codes_.length c2331), some (ptr b2314 0), some (ptr b2314 0), some (ptr b2314 0), some (ptr b2317 0), some (.tuple ⟨[.int .i64 x2356, .int .i64 x2357]⟩), some (.tuple ⟨[.int .i64 x2356, .int .i64 x2357]⟩), some (.int .i64 x2356), some (.int .i64 x2357), some (.int .i64 x2356), some (.int .i64 x2357)]) [8, 1, 3, 7, 0, 2, 6, 5, 4] [9, 10, 11, 12, 13] rfl rfl rfl (by exact ⟨nR rfl rfl rfl rfl rfl (by exact ovE (mv rfl) rfl), nR rfl rfl rfl rfl rfl (by exact ovE (ex rfl rfl) rfl), nR rfl rfl rfl rfl rfl (by exact ovE (ex rfl rfl) rfl), nR rfl rfl rfl rfl rfl (by exact ovE (asg rfl) rfl), nR rfl rfl rfl rfl rfl (by exact ovE (asg rfl) rfl), trivial⟩) (fun a w hS => ?_) ho hcl hmust hA hst
      replace hS := hS.env2 (e' := [(0, ptr b2314 0), (9, .int .i64 x2350), (11, .int .i64 x2356), (12, .int .i64 x2357)]) ⟨rfl, rfl, rfl, rfl, trivial⟩
      refine then_n ?_
      refine wp_seq ?_
      refine wp_seq ?_
      refine wp_region_list ?_
      refine st1 hS (mv rfl) rfl fun a w hS => ?_
      refine st1 hS (bin rfl rfl rfl) rfl fun a w hS => ?_
      refine wpList_nil ?_
      refine then_n ?_
      refine s_cond hS rfl hM (fun hb2361 hM => ?_) (fun hb2361 hM => ?_)
      · refine wp_seq ?_
        refine wp_region_list ?_
        refine st1 hS (mv rfl) rfl fun a w hS => ?_
        refine st1 hS (asg rfl) rfl fun a w hS => ?_
        refine wpList_nil ?_
        refine then_n ?_
        refine wp_ret ?_
        refine then_ret ?_
        exact s_ret (rs := [6]) hS rfl rfl (hret x2357 at_2358 f2359 A2320 c2321 s2313.out_ f2322 f2315 w hM h2360 hV2323 hB2316 (hS.st.pick [1, 0, 2] (by kernel_rfl)))
      · refine wp_skip ?_
        refine then_n ?_
        refine wp_seq ?_
        refine wp_seq ?_
        refine wp_region_list ?_
        refine st1 hS (mv rfl) rfl fun a w hS => ?_
        refine st1 hS (bin rfl rfl rfl) rfl fun a w hS => ?_
        refine wpList_nil ?_
        refine then_n ?_
        refine s_cond hS rfl hM (fun hb2362 hM => ?_) (fun hb2362 hM => ?_)
        · refine wp_seq ?_
          refine wp_region_list ?_
          refine st1 hS (asg rfl) rfl fun a w hS => ?_
          refine wpList_nil ?_
          refine then_n ?_
          refine wp_ret ?_
          refine then_ret ?_
          exact s_ret (rs := [6]) hS rfl rfl (hret (3 : Int) at_2358 f2359 A2320 c2321 s2313.out_ f2322 f2315 w hM h2360 hV2323 hB2316 (hS.st.pick [1, 0, 2] (by kernel_rfl)))
        · refine wp_skip ?_
          refine then_n ?_
          refine wp_seq ?_
          refine wp_region_list ?_
          refine st1 hS (mv rfl) rfl fun a w hS => ?_
          refine s_call hS rfl Tryd.call53 (mortiseref07_Distance_c hG K x2356 (hS.st.part 0 [0, 1, 2, 3] (by kernel_rfl)) (wp_bind hM) (fun x2371 x2372 w hM  hst => s_back hS.ev hst.appF rfl fun hS => ?_))
          replace hS : Ss _ _ _ H [f2359, f2315, f2322, f2335] F _ _ := hS
          refine st1 hS (mv rfl) rfl fun a w hS => ?_
          refine st1 hS (ex rfl rfl) rfl fun a w hS => ?_
          refine st1 hS (ex rfl rfl) rfl fun a w hS => ?_
          refine st1 hS (asg rfl) rfl fun a w hS => ?_
          refine st1 hS (asg rfl) rfl fun a w hS => ?_
          refine wpList_nil ?_
          refine then_n ?_
          refine wp_seq ?_
          refine wp_region_list ?_
          refine st1 hS (mv rfl) rfl fun a w hS => ?_
          refine st1 hS (mv rfl) rfl fun a w hS => ?_
          refine st1 hS (mv rfl) rfl fun a w hS => ?_
          refine s_call hS rfl Tryd.call27 (mortiseref07_state_bits_c hG K (T_mortiseref07_state.mk (T_mortiseref05_Reader.mk s2313.r_.S_ at_2358) s2313.out_ s2313.limit_) x2372 x2371 b2314 f2315 b2317 f2359 A2320 c2321 f2322 hB2316 h2360 hV2323 (hS.st.part 3 [1, 0, 2, 3] (by kernel_rfl)) (wp_bind hM) (fun x2373 x2374 at_2375 f2376 w hM h2377 hst => s_back hS.ev hst.appF rfl fun hS => ?_))
          replace hS : Ss _ _ _ H [f2315, f2376, f2322, f2335] F _ _ := hS
          refine st1 hS (mv rfl) rfl fun a w hS => ?_
          refine st1 hS (ex rfl rfl) rfl fun a w hS => ?_
          refine st1 hS (ex rfl rfl) rfl fun a w hS => ?_
          refine st1 hS (asg rfl) rfl fun a w hS => ?_
          refine st1 hS (asg rfl) rfl fun a w hS => ?_
          refine wpList_nil ?_
          refine then_n ?_
          refine wp_seq ?_
          refine wp_seq ?_
          refine wp_region_list ?_
          refine st1 hS (mv rfl) rfl fun a w hS => ?_
          refine st1 hS (bin rfl rfl rfl) rfl fun a w hS => ?_
          refine wpList_nil ?_
          refine then_n ?_
          refine s_cond hS rfl hM (fun hb2378 hM => ?_) (fun hb2378 hM => ?_)
          · refine wp_seq ?_
            refine wp_region_list ?_
            refine st1 hS (mv rfl) rfl fun a w hS => ?_
            refine st1 hS (asg rfl) rfl fun a w hS => ?_
            refine wpList_nil ?_
            refine then_n ?_
            refine wp_ret ?_
            refine then_ret ?_
            exact s_ret (rs := [6]) hS rfl rfl (hret x2374 at_2375 f2376 A2320 c2321 s2313.out_ f2322 f2315 w hM h2377 hV2323 hB2316 (hS.st.pick [0, 1, 2] (by kernel_rfl)))
          · refine wp_skip ?_
            refine then_n ?_
            refine wp_seq ?_
            refine wp_seq ?_
            refine wp_region_list ?_
            refine st1 hS (mv rfl) rfl fun a w hS => ?_
            refine st1 hS (mv rfl) rfl fun a w hS => ?_
            refine st1 hS (nck rfl) rfl fun a w hS => ?_
            refine st1 hS (fad rfl Tryd.runUnderlying51 rfl Tryd.sizeOf30 rfl) rfl fun a w hS => ?_
            refine st1 hS (ldb 0 rfl hB2316 rfl rfl Tryd.isAgg30) rfl fun a w hS => ?_
            refine st1 hS (lenV rfl Tryd.runUnderlying30) rfl fun a w hS => ?_
            refine st1 hS (bin rfl rfl rfl) rfl fun a w hS => ?_
            refine wpList_nil ?_
            refine then_n ?_
            refine s_cond hS rfl hM (fun hb2379 hM => ?_) (fun hb2379 hM => ?_)
            · refine wp_seq ?_
              refine wp_region_list ?_
              refine st1 hS (asg rfl) rfl fun a w hS => ?_
              refine wpList_nil ?_
              refine then_n ?_
              refine wp_ret ?_
              refine then_ret ?_
              exact s_ret (rs := [6]) hS rfl rfl (hret (3 : Int) at_2375 f2376 A2320 c2321 s2313.out_ f2322 f2315 w hM h2377 hV2323 hB2316 (hS.st.pick [0, 1, 2] (by kernel_rfl)))
            · refine wp_skip ?_
              refine then_n ?_
              refine wp_seq ?_
              refine wp_seq ?_
              refine draw_begin (vals := [some (.int .i64 x2350), some (ptr b2314 0), some (ptr b2314 0), some (ptr b2314 2), some (.int .i64 s2313.limit_), some (ptr b2314 0), some (ptr b2314 0), some (ptr b2314 1), some (.slice A2320 s2313.out_.length c2321), some (.int .i64 (s2313.out_.length : Int)), some (.int .i64 (w64 (s2313.limit_ - (s2313.out_.length : Int)))), some (.bool (decide (x2350 > (w64 (s2313.limit_ - (s2313.out_.length : Int))))))]) hS mixed rfl ?_
              intro l w ho hcl hA hst
              refine phaseE (vals := [some (.int .i64 x2350), some (ptr b2314 0), some (ptr b2314 0), some (ptr b2314 2), some (.int .i64 s2313.limit_), some (ptr b2314 0), some (ptr b2314 0), some (ptr b2314 1), some (.slice A2320 s2313.out_.length c2321), some (.int .i64 (s2313.out_.length : Int)), some (.int .i64 (w64 (s2313.limit_ - (s2313.out_.length : Int)))), some (.bool (decide (x2350 > (w64 (s2313.limit_ - (s2313.out_.length : Int))))))]) [] [0, 1, 2, 3, 4, 5, 6, 7, 8, 9, 10, 11] rfl rfl rfl (by exact ⟨nR rfl rfl rfl rfl rfl (by exact ovE (mv rfl) rfl), nR rfl rfl rfl rfl rfl (by exact ovE (mv rfl) rfl), nR rfl rfl rfl rfl rfl (by exact ovE (nck rfl) rfl), nR rfl rfl rfl rfl rfl (by exact ovE (fad rfl Tryd.runUnderlying51 rfl Tryd.sizeOf3 rfl) rfl), nR rfl rfl rfl rfl rfl (by exact ovE (ldb 0 rfl hB2316 rfl rfl Tryd.isAgg3) rfl), nR rfl rfl rfl rfl rfl (by exact ovE (mv rfl) rfl), nR rfl rfl rfl rfl rfl (by exact ovE (nck rfl) rfl), nR rfl rfl rfl rfl rfl (by exact ovE (fad rfl Tryd.runUnderlying51 rfl Tryd.sizeOf30 rfl) rfl), nR rfl rfl rfl rfl rfl (by exact ovE (ldb 0 rfl hB2316 rfl rfl Tryd.isAgg30) rfl), nR rfl rfl rfl rfl rfl (by exact ovE (lenV rfl Tryd.runUnderlying30) rfl), nR rfl rfl rfl rfl rfl (by exact ovE (bin rfl rfl rfl) rfl), nR rfl rfl rfl rfl rfl (by exact ovE (bin rfl rfl rfl) rfl), trivial⟩) (fun a w hS => ?_) ho hcl (fun m hm => (List.not_mem_nil hm).elim) hA hst
              replace hS := hS.env2 (e' := [(0, ptr b2314 0), (9, .int .i64 x2350), (15, .int .i64 x2373), (85, .bool (decide (x2350 > (w64 (s2313.limit_ - (s2313.out_.length : Int))))))]) ⟨rfl, rfl, rfl, rfl, trivial⟩
              refine then_n ?_
              refine s_cond hS rfl hM (fun hb2380 hM => ?_) (fun hb2380 hM => ?_)
              · refine wp_seq ?_
                refine wp_region_list ?_
                refine st1 hS (asg rfl) rfl fun a w hS => ?_
                refine wpList_nil ?_
                refine then_n ?_
                refine wp_ret ?_
                refine then_ret ?_
                exact s_ret (rs := [6]) hS rfl rfl (hret (11 : Int) at_2375 f2376 A2320 c2321 s2313.out_ f2322 f2315 w hM h2377 hV2323 hB2316 (hS.st.pick [0, 1, 2] (by kernel_rfl)))
              · refine wp_skip ?_
                refine then_n ?_
                refine wp_seq ?_
                refine wp_seq ?_
                refine wp_region_list ?_
                refine st1 hS (asg rfl) rfl fun a w hS => ?_
                refine wpList_nil ?_
                refine then_n ?_
                refine wp_block ?_
                refine s_loopJ (fun k2415 a w => ∃ (A2407 : Option Addr) (c2408 : Nat) (out2409 : (List Int)) (f2410 : Frag) (f2412 : Frag) (i2414 : Int), Ss 113 [] [(0, ptr b2314 0), (9, .int .i64 x2350), (15, .int .i64 x2373), (17, .int .i64 i2414)] H [f2412, f2376, f2410] F a w ∧ (Vec 5 (ci .u8) 1 A2407 out2409 c2408 f2410) ∧ (Blk f2412 b2314 ([ptr b2317 0, .slice A2407 out2409.length c2408, .int .i64 s2313.limit_]) 51) ∧ (mortiseref07_state_match.l1 K x2350 x2373 at_2375 k2415 out2409 i2414).wp kr kp) K ?_ ?_ ?_
                · exact ⟨A2320, c2321, s2313.out_, f2322, f2315, (0 : Int), hS.to [0, 1, 2] (by kernel_rfl) ⟨rfl, rfl, rfl, rfl, trivial⟩, hV2323, hB2316, hM⟩
                · intro a w hI; obtain ⟨_, _, _, _, _, _, _, _, _, hM⟩ := hI; exact hM
                · intro k2415 a w hI J2432 hJ2432
                  obtain ⟨A2407, c2408, out2409, f2410, f2412, i2414, hS, hV2411, hB2413, hM⟩ := hI
                  rw [mortiseref07_state_match.l1] at hM
                  refine wp_seq ?_
                  refine wp_seq ?_
                  refine wp_region_list ?_
                  refine st1 hS (mv rfl) rfl fun a w hS => ?_
                  refine st1 hS (mv rfl) rfl fun a w hS => ?_
                  refine st1 hS (bin rfl rfl rfl) rfl fun a w hS => ?_
                  refine wpList_nil ?_
                  refine then_n ?_
                  refine s_cond hS rfl hM (fun hb2416 hM => ?_) (fun hb2416 hM => ?_)
                  · refine wp_skip ?_
                    refine then_n ?_
                    refine wp_seq ?_
                    refine wp_block ?_
                    obtain ⟨hk2418, hM⟩ := wp_chk hM
                    refine draw_begin (vals := [some (ptr b2314 0), some (ptr b2314 0), some (ptr b2314 0), some (ptr b2314 1), some (.slice A2407 out2409.length c2408), some (ptr b2314 0), some (ptr b2314 0), some (ptr b2314 1), some (.slice A2407 out2409.length c2408), some (ptr b2314 0), some (ptr b2314 0), some (ptr b2314 1), some (.slice A2407 out2409.length c2408), some (.int .i64 (out2409.length : Int)), some (.int .i64 x2373), some (.int .i64 (w64 ((out2409.length : Int) - x2373))), some (slp A2407 (Int.toNat (w64 ((out2409.length : Int) - x2373)) * 1)), some (.int .u8 (rd out2409 (w64 ((out2409.length : Int) - x2373)))), none, none, none, none, none]) hS mixed rfl ?_
                    intro l w ho hcl hA hst
                    refine phase' (vals := [some (ptr b2314 0), some (ptr b2314 0), some (ptr b2314 0), some (ptr b2314 1), some (.slice A2407 out2409.length c2408), some (ptr b2314 0), some (ptr b2314 0), some (ptr b2314 1), some (.slice A2407 out2409.length c2408), some (ptr b2314 0), some (ptr b2314 0), some (ptr b2314 1), some (.slice A2407 out2409.length c2408), some (.int .i64 (out2409.length : Int)), some (.int .i64 x2373), some (.int .i64 (w64 ((out2409.length : Int) - x2373))), some (slp A2407 (Int.toNat (w64 ((out2409.length : Int) - x2373)) * 1)), some (.int .u8 (rd out2409 (w64 ((out2409.length : Int) - x2373)))), none, none, none, none, none]) 18 [] [0, 1, 2, 3, 4, 5, 6, 7, 8, 9, 10, 11, 12, 13, 14, 15, 16, 17] rfl rfl rfl rfl (by exact ⟨nR rfl rfl rfl rfl rfl (by exact ovE (mv rfl) rfl), nR rfl rfl rfl rfl rfl (by exact ovE (mv rfl) rfl), nR rfl rfl rfl rfl rfl (by exact ovE (nck rfl) rfl), nR rfl rfl rfl rfl rfl (by exact ovE (fad rfl Tryd.runUnderlying51 rfl Tryd.sizeOf30 rfl) rfl), nR rfl rfl rfl rfl rfl (by exact ovE (ldb 0 rfl hB2413 rfl rfl Tryd.isAgg30) rfl), nR rfl rfl rfl rfl rfl (by exact ovE (mv rfl) rfl), nR rfl rfl rfl rfl rfl (by exact ovE (nck rfl) rfl), nR rfl rfl rfl rfl rfl (by exact ovE (fad rfl Tryd.runUnderlying51 rfl Tryd.sizeOf30 rfl) rfl), nR rfl rfl rfl rfl rfl (by exact ovE (ldb 0 rfl hB2413 rfl rfl Tryd.isAgg30) rfl), nR rfl rfl rfl rfl rfl (by exact ovE (mv rfl) rfl), nR rfl rfl rfl rfl rfl (by exact ovE (nck rfl) rfl), nR rfl rfl rfl rfl rfl (by exact ovE (fad rfl Tryd.runUnderlying51 rfl Tryd.sizeOf30 rfl) rfl), nR rfl rfl rfl rfl rfl (by exact ovE (ldb 0 rfl hB2413 rfl rfl Tryd.isAgg30) rfl), nR rfl rfl rfl rfl rfl (by exact ovE (lenV rfl Tryd.runUnderlying30) rfl), nR rfl rfl rfl rfl rfl (by exact ovE (mv rfl) rfl), nR rfl rfl rfl rfl rfl (by exact ovE (bin rfl rfl rfl) rfl), nR rfl rfl rfl rfl rfl (by exact ovE (ixV rfl rfl Tryd.runUnderlying30 Tryd.sizeOf5 (hV2411.rd (i := 2) rfl) (fun _ => rfl) rfl hk2418) rfl), nR rfl rfl rfl rfl rfl (by exact ovE (ldV0 rfl (hV2411.rd (i := 2) rfl) (fun _ => rfl) hk2418 rfl Tryd.isAgg5) rfl), trivial⟩) (fun D l a w ho hcl hav hpre hm hE hk hA hst => ?_) ho hcl (fun j hj => (List.not_mem_nil hj).elim) (fun m hm => (List.not_mem_nil hm).elim) List.not_mem_nil hA hst
                    have hS := (Ss.mk hE hst).env2 (e' := [(108, .int .u8 (rd out2409 (w64 ((out2409.length : Int) - x2373))))]) ⟨rfl, trivial⟩
                    refine op_of_nth rfl ?_
                    refine bsl (g := (ci .u8)) ([(rd out2409 (w64 ((out2409.length : Int) - x2373)))] : List Int) [.int .u8 (rd out2409 (w64 ((out2409.length : Int) - x2373)))] hS Tryd.runUnderlying30 Tryd.sizeOf5 X.el5 rfl rfl rfl (by simp [Value.cells]) rfl rfl rfl rfl rfl fun w A2419 c2420 f2421 hV2422 hS => ?_
                    refine wpList_nil (then_n ?_)
                    have hcl2 := hcl.cons (k := 18) (nth_get rfl) hpre
                    have hmust := must_cons (k := 18) hm (chain (k := 18) hcl (nth_get rfl) hpre [(17, 18), (16, 17), (8, 16), (15, 16), (7, 8), (13, 15), (14, 15), (6, 7), (12, 13), (5, 6), (11, 12), (10, 11), (9, 10)] [] rfl (fun _ h => absurd h List.not_mem_nil))
                    replace hst := hS.st
                    have hav2 := hav.cons (vals' := [some (ptr b2314 0), some (ptr b2314 0), some (ptr b2314 0), some (ptr b2314 1), some (.slice A2407 out2409.length c2408), some (ptr b2314 0), some (ptr b2314 0), some (ptr b2314 1), some (.slice A2407 out2409.length c2408), some (ptr b2314 0), some (ptr b2314 0), some (ptr b2314 1), some (.slice A2407 out2409.length c2408), some (.int .i64 (out2409.length : Int)), some (.int .i64 x2373), some (.int .i64 (w64 ((out2409.length : Int) - x2373))), some (slp A2407 (Int.toNat (w64 ((out2409.length : Int) - x2373)) * 1)), some (.int .u8 (rd out2409 (w64 ((out2409.length : Int) - x2373)))), some (.slice A2419 ([(rd out2409 (w64 ((out2409.length : Int) - x2373)))] : List Int).length c2420), none, none, none, none]) (k := 18) ⟨rfl, rfl, rfl, rfl, rfl, rfl, rfl, rfl, rfl, rfl, rfl, rfl, rfl, rfl, rfl, rfl, rfl, rfl, trivial⟩ rfl
                    replace hA := (hA.next hav (subV.get (l' := [some (ptr b2314 0), some (ptr b2314 0), some (ptr b2314 0), some (ptr b2314 1), some (.slice A2407 out2409.length c2408), some (ptr b2314 0), some (ptr b2314 0), some (ptr b2314 1), some (.slice A2407 out2409.length c2408), some (ptr b2314 0), some (ptr b2314 0), some (ptr b2314 1), some (.slice A2407 out2409.length c2408), some (.int .i64 (out2409.length : Int)), some (.int .i64 x2373), some (.int .i64 (w64 ((out2409.length : Int) - x2373))), some (slp A2407 (Int.toNat (w64 ((out2409.length : Int) - x2373)) * 1)), some (.int .u8 (rd out2409 (w64 ((out2409.length : Int) - x2373)))), some (.slice A2419 ([(rd out2409 (w64 ((out2409.length : Int) - x2373)))] : List Int).length c2420), none, none, none, none]) ⟨rfl, rfl, rfl, rfl, rfl, rfl, rfl, rfl, rfl, rfl, rfl, rfl, rfl, rfl, rfl, rfl, rfl, rfl, trivial⟩)).step rfl (nth_get rfl) hk rfl rfl rfl
                    clear hm hav
                    replace hcl := hcl2
                    refine phase' (vals := [some (ptr b2314 0), some (ptr b2314 0), some (ptr b2314 0), some (ptr b2314 1), some (.slice A2407 out2409.length c2408), some (ptr b2314 0), some (ptr b2314 0), some (ptr b2314 1), some (.slice A2407 out2409.length c2408), some (ptr b2314 0), some (ptr b2314 0), some (ptr b2314 1), some (.slice A2407 out2409.length c2408), some (.int .i64 (out2409.length : Int)), some (.int .i64 x2373), some (.int .i64 (w64 ((out2409.length : Int) - x2373))), some (slp A2407 (Int.toNat (w64 ((out2409.length : Int) - x2373)) * 1)), some (.int .u8 (rd out2409 (w64 ((out2409.length : Int) - x2373)))), some (.slice A2419 ([(rd out2409 (w64 ((out2409.length : Int) - x2373)))] : List Int).length c2420), none, none, none, none]) 19 [18, 17, 16, 8, 15, 7, 13, 14, 6, 12, 5, 11, 10, 9] [0, 1, 2, 3, 4] rfl rfl rfl rfl (by exact ⟨nR rfl rfl rfl rfl rfl (by exact ovE (mv rfl) rfl), nR rfl rfl rfl rfl rfl (by exact ovE (mv rfl) rfl), nR rfl rfl rfl rfl rfl (by exact ovE (nck rfl) rfl), nR rfl rfl rfl rfl rfl (by exact ovE (fad rfl Tryd.runUnderlying51 rfl Tryd.sizeOf30 rfl) rfl), nR rfl rfl rfl rfl rfl (by exact ovE (ldb 1 rfl hB2413 rfl rfl Tryd.isAgg30) rfl), trivial⟩) (fun D l a w ho hcl hav hpre hm hE hk hA hst => ?_) ho hcl hav2 hmust (hav2.notin rfl) hA hst
                    have hS := (Ss.mk hE hst).env2 (e' := [(95, .slice A2407 out2409.length c2408), (109, .slice A2419 ([(rd out2409 (w64 ((out2409.length : Int) - x2373)))] : List Int).length c2420)]) ⟨rfl, rfl, trivial⟩
                    refine op_of_nth rfl ?_
                    obtain ⟨hk2423, hM⟩ := wp_chk hM
                    refine apV (ys := ([(rd out2409 (w64 ((out2409.length : Int) - x2373)))] : List Int)) 3 hS rfl rfl hV2411 rfl (hV2422.rd (i := 0) rfl) Tryd.runUnderlying30 Tryd.runUnderlying30 X.el5 (fun _ => rfl) rfl one_t5 hk2423 rfl fun zs2428 w A2424 c2425 f2426 hz hV2427 hS => ?_
                    have hM := lt_to hz hM; clear hz
                    refine wpList_nil (then_n ?_)
                    have hcl2 := hcl.cons (k := 19) (nth_get rfl) hpre
                    have hmust := must_cons (k := 19) hm (chain (k := 19) hcl (nth_get rfl) hpre [(4, 19), (18, 19), (3, 4), (17, 18), (2, 3), (16, 17), (1, 2), (8, 16), (15, 16), (7, 8), (13, 15), (14, 15), (6, 7), (12, 13), (5, 6), (11, 12), (10, 11), (9, 10)] [] rfl (fun _ h => absurd h List.not_mem_nil))
                    replace hst := hS.st
                    have hav2 := hav.cons (vals' := [some (ptr b2314 0), some (ptr b2314 0), some (ptr b2314 0), some (ptr b2314 1), some (.slice A2407 out2409.length c2408), some (ptr b2314 0), some (ptr b2314 0), some (ptr b2314 1), some (.slice A2407 out2409.length c2408), some (ptr b2314 0), some (ptr b2314 0), some (ptr b2314 1), some (.slice A2407 out2409.length c2408), some (.int .i64 (out2409.length : Int)), some (.int .i64 x2373), some (.int .i64 (w64 ((out2409.length : Int) - x2373))), some (slp A2407 (Int.toNat (w64 ((out2409.length : Int) - x2373)) * 1)), some (.int .u8 (rd out2409 (w64 ((out2409.length : Int) - x2373)))), some (.slice A2419 ([(rd out2409 (w64 ((out2409.length : Int) - x2373)))] : List Int).length c2420), some (.slice A2424 zs2428.length c2425), some (ptr b2314 0), some (ptr b2314 1), none]) (k := 19) ⟨rfl, rfl, rfl, rfl, rfl, rfl, rfl, rfl, rfl, rfl, rfl, rfl, rfl, rfl, rfl, rfl, rfl, rfl, rfl, trivial⟩ rfl
                    replace hA := (hA.next hav (subV.get (l' := [some (ptr b2314 0), some (ptr b2314 0), some (ptr b2314 0), some (ptr b2314 1), some (.slice A2407 out2409.length c2408), some (ptr b2314 0), some (ptr b2314 0), some (ptr b2314 1), some (.slice A2407 out2409.length c2408), some (ptr b2314 0), some (ptr b2314 0), some (ptr b2314 1), some (.slice A2407 out2409.length c2408), some (.int .i64 (out2409.length : Int)), some (.int .i64 x2373), some (.int .i64 (w64 ((out2409.length : Int) - x2373))), some (slp A2407 (Int.toNat (w64 ((out2409.length : Int) - x2373)) * 1)), some (.int .u8 (rd out2409 (w64 ((out2409.length : Int) - x2373)))), some (.slice A2419 ([(rd out2409 (w64 ((out2409.length : Int) - x2373)))] : List Int).length c2420), some (.slice A2424 zs2428.length c2425), some (ptr b2314 0), some (ptr b2314 1), none]) ⟨rfl, rfl, rfl, rfl, rfl, rfl, rfl, rfl, rfl, rfl, rfl, rfl, rfl, rfl, rfl, rfl, rfl, rfl, rfl, trivial⟩)).step rfl (nth_get rfl) hk rfl rfl rfl
                    clear hm hav
                    replace hcl := hcl2
                    refine phase' (vals := [some (ptr b2314 0), some (ptr b2314 0), some (ptr b2314 0), some (ptr b2314 1), some (.slice A2407 out2409.length c2408), some (ptr b2314 0), some (ptr b2314 0), some (ptr b2314 1), some (.slice A2407 out2409.length c2408), some (ptr b2314 0), some (ptr b2314 0), some (ptr b2314 1), some (.slice A2407 out2409.length c2408), some (.int .i64 (out2409.length : Int)), some (.int .i64 x2373), some (.int .i64 (w64 ((out2409.length : Int) - x2373))), some (slp A2407 (Int.toNat (w64 ((out2409.length : Int) - x2373)) * 1)), some (.int .u8 (rd out2409 (w64 ((out2409.length : Int) - x2373)))), some (.slice A2419 ([(rd out2409 (w64 ((out2409.length : Int) - x2373)))] : List Int).length c2420), some (.slice A2424 zs2428.length c2425), some (ptr b2314 0), some (ptr b2314 1), none]) 22 [19, 4, 18, 3, 17, 2, 16, 1, 8, 15, 7, 13, 14, 6, 12, 5, 11, 10, 9, 18, 17, 16, 8, 15, 7, 13, 14, 6, 12, 5, 11, 10, 9] [0, 20, 21] rfl rfl rfl rfl (by exact ⟨nR rfl rfl rfl rfl rfl (by exact ovE (mv rfl) rfl), nR rfl rfl rfl rfl rfl (by exact ovE (nck rfl) rfl), nR rfl rfl rfl rfl rfl (by exact ovE (fad rfl Tryd.runUnderlying51 rfl Tryd.sizeOf30 rfl) rfl), trivial⟩) (fun D l a w ho hcl hav hpre hm hE hk hA hst => ?_) ho hcl hav2 hmust (hav2.notin rfl) hA hst
                    have hS := (Ss.mk hE hst).env2 (e' := [(110, .slice A2424 zs2428.length c2425), (112, ptr b2314 1)]) ⟨rfl, rfl, trivial⟩
                    refine op_of_nth rfl ?_
                    refine sto 1 ([ptr b2317 0, .slice A2424 zs2428.length c2425, .int .i64 s2313.limit_]) hS rfl rfl hB2413 rfl rfl rfl rfl Tryd.sizeOf30 fun w f2429 hB2430 hS => ?_
                    refine wpList_nil (then_n ?_)
                    have hcl2 := hcl.cons (k := 22) (nth_get rfl) hpre
                    have hmust := must_cons (k := 22) hm (chain (k := 22) hcl (nth_get rfl) hpre [(0, 22), (1, 22), (2, 22), (3, 22), (4, 22), (5, 22), (6, 22), (7, 22), (8, 22), (9, 22), (10, 22), (11, 22), (12, 22), (13, 22), (14, 22), (15, 22), (16, 22), (17, 22), (18, 22), (19, 22), (21, 22), (20, 21)] [] rfl (fun _ h => absurd h List.not_mem_nil))
                    replace hst := hS.st
                    have hav2 := hav.cons (vals' := [some (ptr b2314 0), some (ptr b2314 0), some (ptr b2314 0), some (ptr b2314 1), some (.slice A2407 out2409.length c2408), some (ptr b2314 0), some (ptr b2314 0), some (ptr b2314 1), some (.slice A2407 out2409.length c2408), some (ptr b2314 0), some (ptr b2314 0), some (ptr b2314 1), some (.slice A2407 out2409.length c2408), some (.int .i64 (out2409.length : Int)), some (.int .i64 x2373), some (.int .i64 (w64 ((out2409.length : Int) - x2373))), some (slp A2407 (Int.toNat (w64 ((out2409.length : Int) - x2373)) * 1)), some (.int .u8 (rd out2409 (w64 ((out2409.length : Int) - x2373)))), some (.slice A2419 ([(rd out2409 (w64 ((out2409.length : Int) - x2373)))] : List Int).length c2420), some (.slice A2424 zs2428.length c2425), some (ptr b2314 0), some (ptr b2314 1), some undef]) (k := 22) ⟨rfl, rfl, rfl, rfl, rfl, rfl, rfl, rfl, rfl, rfl, rfl, rfl, rfl, rfl, rfl, rfl, rfl, rfl, rfl, rfl, rfl, rfl, trivial⟩ rfl
                    replace hA := (hA.next hav (subV.get (l' := [some (ptr b2314 0), some (ptr b2314 0), some (ptr b2314 0), some (ptr b2314 1), some (.slice A2407 out2409.length c2408), some (ptr b2314 0), some (ptr b2314 0), some (ptr b2314 1), some (.slice A2407 out2409.length c2408), some (ptr b2314 0), some (ptr b2314 0), some (ptr b2314 1), some (.slice A2407 out2409.length c2408), some (.int .i64 (out2409.length : Int)), some (.int .i64 x2373), some (.int .i64 (w64 ((out2409.length : Int) - x2373))), some (slp A2407 (Int.toNat (w64 ((out2409.length : Int) - x2373)) * 1)), some (.int .u8 (rd out2409 (w64 ((out2409.length : Int) - x2373)))), some (.slice A2419 ([(rd out2409 (w64 ((out2409.length : Int) - x2373)))] : List Int).length c2420), some (.slice A2424 zs2428.length c2425), some (ptr b2314 0), some (ptr b2314 1), some undef]) ⟨rfl, rfl, rfl, rfl, rfl, rfl, rfl, rfl, rfl, rfl, rfl, rfl, rfl, rfl, rfl, rfl, rfl, rfl, rfl, rfl, rfl, rfl, trivial⟩)).stepN (i := 22) (nth_get rfl) rfl
                    clear hm hav
                    replace hcl := hcl2
                    refine phaseE (vals := [some (ptr b2314 0), some (ptr b2314 0), some (ptr b2314 0), some (ptr b2314 1), some (.slice A2407 out2409.length c2408), some (ptr b2314 0), some (ptr b2314 0), some (ptr b2314 1), some (.slice A2407 out2409.length c2408), some (ptr b2314 0), some (ptr b2314 0), some (ptr b2314 1), some (.slice A2407 out2409.length c2408), some (.int .i64 (out2409.length : Int)), some (.int .i64 x2373), some (.int .i64 (w64 ((out2409.length : Int) - x2373))), some (slp A2407 (Int.toNat (w64 ((out2409.length : Int) - x2373)) * 1)), some (.int .u8 (rd out2409 (w64 ((out2409.length : Int) - x2373)))), some (.slice A2419 ([(rd out2409 (w64 ((out2409.length : Int) - x2373)))] : List Int).length c2420), some (.slice A2424 zs2428.length c2425), some (ptr b2314 0), some (ptr b2314 1), some undef]) [22, 0, 1, 2, 3, 4, 5, 6, 7, 8, 9, 10, 11, 12, 13, 14, 15, 16, 17, 18, 19, 21, 20, 19, 4, 18, 3, 17, 2, 16, 1, 8, 15, 7, 13, 14, 6, 12, 5, 11, 10, 9, 18, 17, 16, 8, 15, 7, 13, 14, 6, 12, 5, 11, 10, 9] [] rfl rfl rfl trivial (fun a w hS => ?_) ho hcl hmust hA hst
                    replace hS := hS.env2 (e' := [(0, ptr b2314 0), (9, .int .i64 x2350), (15, .int .i64 x2373), (17, .int .i64 i2414)]) ⟨rfl, rfl, rfl, rfl, trivial⟩
                    refine blk_n (then_n ?_)
                    refine wp_region_list ?_
                    refine st1 hS (mv rfl) rfl fun a w hS => ?_
                    refine st1 hS (bin rfl rfl rfl) rfl fun a w hS => ?_
                    refine st1x (v := Value.int .i64) hS (asg rfl) rfl fun i2431 a w hz hS => ?_
                    have hM := lt_to hz hM; clear hz
                    refine wpList_nil ?_
                    refine then_n ?_
                    exact hJ2432 _ _ ⟨A2424, c2425, zs2428, f2426, f2429, i2431, hS.to [1, 2, 3] (by kernel_rfl) ⟨rfl, rfl, rfl, rfl, trivial⟩, hV2427, hB2430, hM⟩
                  · refine wp_exit ?_
                    refine then_ex (then_ex (blk_same (then_n ?_)))
                    refine wp_seq ?_
                    refine wp_region_list ?_
                    refine st1 hS (asg rfl) rfl fun a w hS => ?_
                    refine wpList_nil ?_
                    refine then_n ?_
                    refine wp_ret ?_
                    exact s_ret (rs := [6]) hS rfl rfl (hret (0 : Int) at_2375 f2376 A2407 c2408 out2409 f2410 f2412 w hM h2377 hV2411 hB2413 (hS.st.pick [0, 1, 2] (by kernel_rfl)))

theorem mortiseref07_state_symbols_c {H : Imm} {F : List Frag} {w : World} {R : Ending → World → Prop} {kr : (Int × Int × (List Int)) → Prop} {kp : Value → Prop} (hG : Gl H) (K : Nat) (s2142 : T_mortiseref07_state) (literals2153 : T_mortiseref07_code) (distances2162 : T_mortiseref07_code) (b2143 : Nat) (f2144 : Frag) (b2146 : Nat) (f2147 : Frag) (A2149 : Option Addr) (c2150 : Nat) (f2151 : Frag) (A2154 : Option Addr) (c2155 : Nat) (A2158 : Option Addr) (c2159 : Nat) (A2163 : Option Addr) (c2164 : Nat) (A2167 : Option Addr) (c2168 : Nat) (hB2145 : Blk f2144 b2143 ([ptr b2146 0, .slice A2149 s2142.out_.length c2150, .int .i64 s2142.limit_]) 51) (hB2148 : Blk f2147 b2146 ([str s2142.r_.S_, .int .i64 s2142.r_.At_]) 49) (hV2152 : Vec 5 (ci .u8) 1 A2149 s2142.out_ c2150 f2151) (hr2156 : Rdl H [] F (ci .i64) A2154 literals2153.l_) (hc2157 : literals2153.l_.length ≤ c2155) (hr2160 : Rdl H [] F (ci .i64) A2158 literals2153.codes_) (hc2161 : literals2153.codes_.length ≤ c2159) (hr2165 : Rdl H [] F (ci .i64) A2163 distances2162.l_) (hc2166 : distances2162.l_.length ≤ c2164) (hr2169 : Rdl H [] F (ci .i64) A2167 distances2162.codes_) (hc2170 : distances2162.codes_.length ≤ c2168)
    (hS : St w H [f2144, f2147, f2151] F) (hm : (mortiseref07_state_symbols.m K s2142 literals2153 distances2162).wp kr kp)
    (hret : ∀ (x2511 : Int) (at_2512 : Int) (f2513 : Frag) (A2515 : Option Addr) (c2516 : Nat) (out2517 : (List Int)) (f2518 : Frag) (f2520 : Frag) (w : World), kr (x2511, at_2512, out2517) → (Blk f2513 b2146 ([str s2142.r_.S_, .int .i64 at_2512]) 49) → (Vec 5 (ci .u8) 1 A2515 out2517 c2516 f2518) → (Blk f2520 b2143 ([ptr b2146 0, .slice A2515 out2517.length c2516, .int .i64 s2142.limit_]) 51) → St w H [f2520, f2513, f2518] F → R (.returned (.int .i64 x2511)) w) :
    Calls Tryd.prog 31 ⟨[ptr b2143 0, .agg ⟨[.slice A2154 literals2153.l_.length c2155, .slice A2158 literals2153.codes_.length c2159]⟩, .agg ⟨[.slice A2163 distances2162.l_.length c2164, .slice A2167 distances2162.codes_.length c2168]⟩]⟩ w R := by
  refine enter Tryd.func31 rfl Tryd.ntmps31 rfl hS fun a w hS => ?_
  have hM := hm; clear hm
  rw [mortiseref07_state_symbols.m] at hM
  refine wp_seq ?_
  refine wp_region_list ?_
  refine bx ([.slice A2154 literals2153.l_.length c2155, .slice A2158 literals2153.codes_.length c2159]) hS rfl rfl rfl fun w b2171 f2172 hB2173 hS => ?_
  refine bx ([.slice A2163 distances2162.l_.length c2164, .slice A2167 distances2162.codes_.length c2168]) hS rfl rfl rfl fun w b2174 f2175 hB2176 hS => ?_
  refine st1 hS (asg rfl) rfl fun a w hS => ?_
  refine wpList_nil ?_
  refine then_n ?_
  refine wp_block ?_
  refine s_loopJ (fun k2476 a w => ∃ (at_2466 : Int) (f2467 : Frag) (A2469 : Option Addr) (c2470 : Nat) (out2471 : (List Int)) (f2472 : Frag) (f2474 : Frag), Ss 57 [] [(0, ptr b2143 0), (4, ptr b2171 0), (5, ptr b2174 0)] H [f2474, f2467, f2472, f2172, f2175] F a w ∧ (Blk f2467 b2146 ([str s2142.r_.S_, .int .i64 at_2466]) 49) ∧ (Vec 5 (ci .u8) 1 A2469 out2471 c2470 f2472) ∧ (Blk f2474 b2143 ([ptr b2146 0, .slice A2469 out2471.length c2470, .int .i64 s2142.limit_]) 51) ∧ (mortiseref07_state_symbols.l1 K s2142 literals2153 distances2162 k2476 at_2466 out2471).wp kr kp) K ?_ ?_ ?_
  · exact ⟨s2142.r_.At_, f2147, A2149, c2150, s2142.out_, f2151, f2144, hS.to [2, 3, 4, 1, 0] (by kernel_rfl) ⟨rfl, rfl, rfl, trivial⟩, hB2148, hV2152, hB2145, hM⟩
  · intro a w hI; obtain ⟨_, _, _, _, _, _, _, _, _, _, _, hM⟩ := hI; exact hM
  · intro k2476 a w hI J2510 hJ2510
    obtain ⟨at_2466, f2467, A2469, c2470, out2471, f2472, f2474, hS, hB2468, hV2473, hB2475, hM⟩ := hI
    rw [mortiseref07_state_symbols.l1] at hM
    refine wp_block ?_
    refine wp_seq ?_
    refine draw_begin (vals := [some (ptr b2171 0), some (.slice A2154 literals2153.l_.length c2155), some (ptr b2171 1), some (.slice A2158 literals2153.codes_.length c2159), some (ptr b2143 0), some (ptr b2143 0), some (ptr b2143 0), some (ptr b2146 0), none, none, none, none, none, none]) hS mixed rfl ?_
    intro l w ho hcl hA hst
    refine phase' (vals := [some (ptr b2171 0), some (.slice A2154 literals2153.l_.length c2155), some (ptr b2171 1), some (.slice A2158 literals2153.codes_.length c2159), some (ptr b2143 0), some (ptr b2143 0), some (ptr b2143 0), some (ptr b2146 0), none, none, none, none, none, none]) 8 [] [0, 1, 2, 3, 4, 5, 6, 7] rfl rfl rfl rfl (by exact ⟨nR rfl rfl rfl rfl rfl (by exact ovE (fad rfl Tryd.runUnderlying71 rfl Tryd.sizeOf67 rfl) rfl), nR rfl rfl rfl rfl rfl (by exact ovE (ldb 3 rfl hB2173 rfl rfl Tryd.isAgg67) rfl), nR rfl rfl rfl rfl rfl (by exact ovE (fad rfl Tryd.runUnderlying71 rfl Tryd.sizeOf67 rfl) rfl), nR rfl rfl rfl rfl rfl (by exact ovE (ldb 3 rfl hB2173 rfl rfl Tryd.isAgg67) rfl), nR rfl rfl rfl rfl rfl (by exact ovE (mv rfl) rfl), nR rfl rfl rfl rfl rfl (by exact ovE (nck rfl) rfl), nR rfl rfl rfl rfl rfl (by exact ovE (fad rfl Tryd.runUnderlying51 rfl Tryd.sizeOf47 rfl) rfl), nR rfl rfl rfl rfl rfl (by exact ovE (ldb 0 rfl hB2475 rfl rfl Tryd.isAgg47) rfl), trivial⟩) (fun D l a w ho hcl hav hpre hm hE hk hA hst => ?_) ho hcl (fun j hj => (List.not_mem_nil hj).elim) (fun m hm => (List.not_mem_nil hm).elim) List.not_mem_nil hA hst
    have hS := (Ss.mk hE hst).env2 (e' := [(12, .slice A2154 literals2153.l_.length c2155), (14, .slice A2158 literals2153.codes_.length c2159), (18, ptr b2146 0)]) ⟨rfl, rfl, rfl, trivial⟩
    refine op_of_nth rfl ?_
    refine s_call hS rfl Tryd.call43 (mortiseref06_Next_c hG K literals2153.l_ literals2153.codes_ (T_mortiseref05_Reader.mk s2142.r_.S_ at_2466) A2154 c2155 A2158 c2159 b2146 f2467 (hr2156.app _) hc2157 (hr2160.app _) hc2161 hB2468 (hS.st.part 1 [1, 0, 2, 3, 4] (by kernel_rfl)) (wp_bind hM) (fun x2477 x2478 at_2479 f2480 w hM h2481 hst => s_back hS.ev hst.appF rfl fun hS => ?_))
    replace hS : Ss _ _ _ H [f2480, f2474, f2472, f2172, f2175] F _ _ := hS
    refine wpList_nil (then_n ?_)
    have hcl2 := hcl.cons (k := 8) (nth_get rfl) hpre
    have hmust := must_cons (k := 8) hm (chain (k := 8) hcl (nth_get rfl) hpre [(1, 8), (3, 8), (7, 8), (0, 1), (2, 3), (6, 7), (5, 6), (4, 5)] [] rfl (fun _ h => absurd h List.not_mem_nil))
    replace hst := hS.st
    have hav2 := hav.cons (vals' := [some (ptr b2171 0), some (.slice A2154 literals2153.l_.length c2155), some (ptr b2171 1), some (.slice A2158 literals2153.codes_.length c2159), some (ptr b2143 0), some (ptr b2143 0), some (ptr b2143 0), some (ptr b2146 0), some (.tuple ⟨[.int .i64 x2477, .int .i64 x2478]⟩), some (.tuple ⟨[.int .i64 x2477, .int .i64 x2478]⟩), some (.int .i64 x2477), some (.int .i64 x2478), some (.int .i64 x2477), some (.int .i64 x2478)]) (k := 8) ⟨rfl, rfl, rfl, rfl, rfl, rfl, rfl, rfl, trivial⟩ rfl
    replace hA := (hA.next hav (subV.get (l' := [some (ptr b2171 0), some (.slice A2154 literals2153.l_.length c2155), some (ptr b2171 1), some (.slice A2158 literals2153.codes_.length c2159), some (ptr b2143 0), some (ptr b2143 0), some (ptr b2143 0), some (ptr b2146 0), some (.tuple ⟨[.int .i64 x2477, .int .i64 x2478]⟩), some (.tuple ⟨[.int .i64 x2477, .int .i64 x2478]⟩), some (.int .i64 x2477), some (.int .i64 x2478), some (.int .i64 x2477), some (.int .i64 x2478)]) ⟨rfl, rfl, rfl, rfl, rfl, rfl, rfl, rfl, trivial⟩)).step rfl (nth_get rfl) hk rfl rfl rfl
    clear hm hav
    replace hcl := hcl2
    refine phaseE (vals := [some (ptr b2171 0), some (.slice A2154 literals2153.l_.length c2155), some (ptr b2171 1), some (.slice A2158 literals2153.codes_.length c2159), some (ptr b2143 0), some (ptr b2143 0), some (ptr b2143 0), some (ptr b2146 0), some (.tuple ⟨[.int .i64 x2477, .int .i64 x2478]⟩), some (.tuple ⟨[.int .i64 x2477, .int .i64 x2478]⟩), some (.int .i64 x2477), some (.int .i64 x2478), some (.int .i64 x2477), some (.int .i64 x2478)]) [8, 1, 3, 7, 0, 2, 6, 5, 4] [9, 10, 11, 12, 13] rfl rfl rfl (by exact ⟨nR rfl rfl rfl rfl rfl (by exact ovE (mv rfl) rfl), nR rfl rfl rfl rfl rfl (by exact ovE (ex rfl rfl) rfl), nR rfl rfl rfl rfl rfl (by exact ovE (ex rfl rfl) rfl), nR rfl rfl rfl rfl rfl (by exact ovE (asg rfl) rfl), nR rfl rfl rfl rfl rfl (by exact ovE (asg rfl) rfl), trivial⟩) (fun a w hS => ?_) ho hcl hmust hA hst
    replace hS := hS.env2 (e' := [(0, ptr b2143 0), (4, ptr b2171 0), (5, ptr b2174 0), (7, .int .i64 x2477), (8, .int .i64 x2478)]) ⟨rfl, rfl, rfl, rfl, rfl, trivial⟩
    refine then_n ?_
    refine wp_seq ?_
    refine wp_seq ?_
    refine wp_region_list ?_
    refine st1 hS (mv rfl) rfl fun a w hS => ?_
    refine st1 hS (bin rfl rfl rfl) rfl fun a w hS => ?_
    refine wpList_nil ?_
    refine then_n ?_
    refine s_cond hS rfl hM (fun hb2482 hM => ?_) (fun hb2482 hM => ?_)
    · refine wp_seq ?_
      refine wp_region_list ?_
      refine st1 hS (mv rfl) rfl fun a w hS => ?_
      refine st1 hS (asg rfl) rfl fun a w hS => ?_
      refine wpList_nil ?_
      refine then_n ?_
      refine wp_ret ?_
      refine then_ret (blk_ret (then_ret (blk_ret ?_)))
      exact s_ret (rs := [6]) hS rfl rfl (hret x2478 at_2479 f2480 A2469 c2470 out2471 f2472 f2474 w hM h2481 hV2473 hB2475 (hS.st.pick [1, 0, 2] (by kernel_rfl)))
    · refine wp_skip ?_
      refine then_n ?_
      refine wp_seq ?_
      refine wp_seq ?_
      refine wp_region_list ?_
      refine st1 hS (mv rfl) rfl fun a w hS => ?_
      refine st1 hS (bin rfl rfl rfl) rfl fun a w hS => ?_
      refine wpList_nil ?_
      refine then_n ?_
      refine s_cond hS rfl hM (fun hb2483 hM => ?_) (fun hb2483 hM => ?_)
      · refine wp_seq ?_
        refine wp_region_list ?_
        refine st1 hS (asg rfl) rfl fun a w hS => ?_
        refine wpList_nil ?_
        refine then_n ?_
        refine wp_ret ?_
        refine then_ret (blk_ret (then_ret (blk_ret ?_)))
        exact s_ret (rs := [6]) hS rfl rfl (hret (0 : Int) at_2479 f2480 A2469 c2470 out2471 f2472 f2474 w hM h2481 hV2473 hB2475 (hS.st.pick [1, 0, 2] (by kernel_rfl)))
      · refine wp_skip ?_
        refine then_n ?_
        refine wp_seq ?_
        refine wp_seq ?_
        refine wp_region_list ?_
        refine st1 hS (mv rfl) rfl fun a w hS => ?_
        refine st1 hS (bin rfl rfl rfl) rfl fun a w hS => ?_
        refine wpList_nil ?_
        refine then_n ?_
        refine s_cond hS rfl hM (fun hb2484 hM => ?_) (fun hb2484 hM => ?_)
        · refine wp_seq ?_
          refine wp_seq ?_
          refine draw_begin (vals := [some (ptr b2143 0), some (ptr b2143 0), some (ptr b2143 1), some (.slice A2469 out2471.length c2470), some (.int .i64 (out2471.length : Int)), some (ptr b2143 0), some (ptr b2143 0), some (ptr b2143 2), some (.int .i64 s2142.limit_), some (.bool (decide ((out2471.length : Int) ≥ s2142.limit_)))]) hS mixed rfl ?_
          intro l w ho hcl hA hst
          refine phaseE (vals := [some (ptr b2143 0), some (ptr b2143 0), some (ptr b2143 1), some (.slice A2469 out2471.length c2470), some (.int .i64 (out2471.length : Int)), some (ptr b2143 0), some (ptr b2143 0), some (ptr b2143 2), some (.int .i64 s2142.limit_), some (.bool (decide ((out2471.length : Int) ≥ s2142.limit_)))]) [] [0, 1, 2, 3, 4, 5, 6, 7, 8, 9] rfl rfl rfl (by exact ⟨nR rfl rfl rfl rfl rfl (by exact ovE (mv rfl) rfl), nR rfl rfl rfl rfl rfl (by exact ovE (nck rfl) rfl), nR rfl rfl rfl rfl rfl (by exact ovE (fad rfl Tryd.runUnderlying51 rfl Tryd.sizeOf30 rfl) rfl), nR rfl rfl rfl rfl rfl (by exact ovE (ldb 1 rfl hB2475 rfl rfl Tryd.isAgg30) rfl), nR rfl rfl rfl rfl rfl (by exact ovE (lenV rfl Tryd.runUnderlying30) rfl), nR rfl rfl rfl rfl rfl (by exact ovE (mv rfl) rfl), nR rfl rfl rfl rfl rfl (by exact ovE (nck rfl) rfl), nR rfl rfl rfl rfl rfl (by exact ovE (fad rfl Tryd.runUnderlying51 rfl Tryd.sizeOf3 rfl) rfl), nR rfl rfl rfl rfl rfl (by exact ovE (ldb 1 rfl hB2475 rfl rfl Tryd.isAgg3) rfl), nR rfl rfl rfl rfl rfl (by exact ovE (bin rfl rfl rfl) rfl), trivial⟩) (fun a w hS => ?_) ho hcl (fun m hm => (List.not_mem_nil hm).elim) hA hst
          replace hS := hS.env2 (e' := [(0, ptr b2143 0), (4, ptr b2171 0), (5, ptr b2174 0), (7, .int .i64 x2477), (38, .bool (decide ((out2471.length : Int) ≥ s2142.limit_)))]) ⟨rfl, rfl, rfl, rfl, rfl, trivial⟩
          refine then_n ?_
          refine s_cond hS rfl hM (fun hb2485 hM => ?_) (fun hb2485 hM => ?_)
          · refine wp_seq ?_
            refine wp_region_list ?_
            refine st1 hS (asg rfl) rfl fun a w hS => ?_
            refine wpList_nil ?_
            refine then_n ?_
            refine wp_ret ?_
            refine then_ret (then_ret (blk_ret (then_ret (blk_ret ?_))))
            exact s_ret (rs := [6]) hS rfl rfl (hret (11 : Int) at_2479 f2480 A2469 c2470 out2471 f2472 f2474 w hM h2481 hV2473 hB2475 (hS.st.pick [1, 0, 2] (by kernel_rfl)))
          · refine wp_skip ?_
            refine then_n ?_
            refine wp_seq ?_
            refine wp_region_list ?_
            refine st1 hS (mv rfl) rfl fun a w hS => ?_
            refine st1 hS (mv rfl) rfl fun a w hS => ?_
            refine st1 hS (nck rfl) rfl fun a w hS => ?_
            refine st1 hS (fad rfl Tryd.runUnderlying51 rfl Tryd.sizeOf30 rfl) rfl fun a w hS => ?_
            refine st1 hS (ldb 1 rfl hB2475 rfl rfl Tryd.isAgg30) rfl fun a w hS => ?_
            refine st1 hS (mv rfl) rfl fun a w hS => ?_
            refine st1 hS (cvi rfl Tryd.runUnderlying3 Tryd.runUnderlying5) rfl fun a w hS => ?_
            refine bsl (g := (ci .u8)) ([(wr .u8 x2477)] : List Int) [.int .u8 (wr .u8 x2477)] hS Tryd.runUnderlying30 Tryd.sizeOf5 X.el5 rfl rfl rfl (by simp [Value.cells]) rfl rfl rfl rfl rfl fun w A2486 c2487 f2488 hV2489 hS => ?_
            obtain ⟨hk2490, hM⟩ := wp_chk hM
            refine apV (ys := ([(wr .u8 x2477)] : List Int)) 3 hS rfl rfl hV2473 rfl (hV2489.rd (i := 0) rfl) Tryd.runUnderlying30 Tryd.runUnderlying30 X.el5 (fun _ => rfl) rfl one_t5 hk2490 rfl fun zs2495 w A2491 c2492 f2493 hz hV2494 hS => ?_
            have hM := lt_to hz hM; clear hz
            refine st1 hS (nck rfl) rfl fun a w hS => ?_
            refine st1 hS (fad rfl Tryd.runUnderlying51 rfl Tryd.sizeOf30 rfl) rfl fun a w hS => ?_
            refine sto 2 ([ptr b2146 0, .slice A2491 zs2495.length c2492, .int .i64 s2142.limit_]) hS rfl rfl hB2475 rfl rfl rfl rfl Tryd.sizeOf30 fun w f2496 hB2497 hS => ?_
            refine wpList_nil ?_
            refine then_n ?_
            refine wp_exit ?_
            refine then_ex (blk_same (then_n ?_))
            exact hJ2510 _ _ ⟨at_2479, f2480, A2491, c2492, zs2495, f2493, f2496, hS.to [2, 1, 3, 4, 5] (by kernel_rfl) ⟨rfl, rfl, rfl, trivial⟩, h2481, hV2494, hB2497, hM⟩
        · refine wp_skip ?_
          refine then_n ?_
          refine wp_seq ?_
          refine wp_region_list ?_
          refine st1 hS (mv rfl) rfl fun a w hS => ?_
          refine st1 hS (mv rfl) rfl fun a w hS => ?_
          refine st1 hS (ldbA 4 rfl hB2176 rfl ([.slice A2163 distances2162.l_.length c2164, .slice A2167 distances2162.codes_.length c2168]) rfl rfl Tryd.isAgg71 Tryd.sizeOf71) rfl fun a w hS => ?_
          refine s_call hS rfl Tryd.call44 (mortiseref07_state_match_c hG K (T_mortiseref07_state.mk (T_mortiseref05_Reader.mk s2142.r_.S_ at_2479) out2471 s2142.limit_) x2477 distances2162 b2143 f2474 b2146 f2480 A2469 c2470 f2472 A2163 c2164 A2167 c2168 hB2475 h2481 hV2473 (hr2165.app _) hc2166 (hr2169.app _) hc2170 (hS.st.part 3 [1, 0, 2, 3, 4] (by kernel_rfl)) (wp_bind hM) (fun x2498 at_2499 f2500 A2501 c2502 out2503 f2504 f2505 w hM h2506 h2507 h2508 hst => s_back hS.ev hst.appF rfl fun hS => ?_))
          replace hS : Ss _ _ _ H [f2505, f2500, f2504, f2172, f2175] F _ _ := hS
          refine st1 hS (asg rfl) rfl fun a w hS => ?_
          refine wpList_nil ?_
          refine then_n ?_
          refine wp_seq ?_
          refine wp_region_list ?_
          refine st1 hS (mv rfl) rfl fun a w hS => ?_
          refine st1 hS (bin rfl rfl rfl) rfl fun a w hS => ?_
          refine wpList_nil ?_
          refine then_n ?_
          refine s_cond hS rfl hM (fun hb2509 hM => ?_) (fun hb2509 hM => ?_)
          · refine wp_seq ?_
            refine wp_region_list ?_
            refine st1 hS (mv rfl) rfl fun a w hS => ?_
            refine st1 hS (asg rfl) rfl fun a w hS => ?_
            refine wpList_nil ?_
            refine then_n ?_
            refine wp_ret ?_
            refine blk_ret (then_ret (blk_ret ?_))
            exact s_ret (rs := [6]) hS rfl rfl (hret x2498 at_2499 f2500 A2501 c2502 out2503 f2504 f2505 w hM h2506 h2507 h2508 (hS.st.pick [0, 1, 2] (by kernel_rfl)))
          · refine wp_skip ?_
            refine blk_n (then_n ?_)
            exact hJ2510 _ _ ⟨at_2499, f2500, A2501, c2502, out2503, f2504, f2505, hS.to [0, 1, 2, 3, 4] (by kernel_rfl) ⟨rfl, rfl, rfl, trivial⟩, h2506, h2507, h2508, hM⟩

theorem mortiseref07_Order_c {H : Imm} {F : List Frag} {w : World} {R : Ending → World → Prop} {kr : Unit → Prop} {kp : Value → Prop} (hG : Gl H) (K : Nat)
    (hS : St w H [] F) (hm : (mortiseref07_Order.m K).wp kr kp)
    (hret : ∀ (A2620 : Option Addr) (c2621 : Nat) (f2622 : Frag) (w : World), kr () → (Vec 3 (ci .i64) 1 A2620 ([(16 : Int), (17 : Int), (18 : Int), (0 : Int), (8 : Int), (7 : Int), (9 : Int), (6 : Int), (10 : Int), (5 : Int), (11 : Int), (4 : Int), (12 : Int), (3 : Int), (13 : Int), (2 : Int), (14 : Int), (1 : Int), (15 : Int)] : List Int) c2621 f2622) → St w H [f2622] F → R (.returned (.slice A2620 ([(16 : Int), (17 : Int), (18 : Int), (0 : Int), (8 : Int), (7 : Int), (9 : Int), (6 : Int), (10 : Int), (5 : Int), (11 : Int), (4 : Int), (12 : Int), (3 : Int), (13 : Int), (2 : Int), (14 : Int), (1 : Int), (15 : Int)] : List Int).length c2621)) w) :
    Calls Tryd.prog 54 ⟨[]⟩ w R := by
  refine enter Tryd.func54 rfl Tryd.ntmps54 rfl hS fun a w hS => ?_
  have hM := hm; clear hm
  rw [mortiseref07_Order.m] at hM
  refine wp_seq ?_
  refine wp_region_list ?_
  refine st1 hS (asg rfl) rfl fun a w hS => ?_
  obtain ⟨f2614, hV2615, hS⟩ := hS.nilV 3 (ci .i64) 1
  refine wpList_nil ?_
  refine then_n ?_
  refine wp_seq ?_
  refine wp_region_list ?_
  refine bsl (g := (ci .i64)) ([(16 : Int), (17 : Int), (18 : Int), (0 : Int), (8 : Int), (7 : Int), (9 : Int), (6 : Int), (10 : Int), (5 : Int), (11 : Int), (4 : Int), (12 : Int), (3 : Int), (13 : Int), (2 : Int), (14 : Int), (1 : Int), (15 : Int)] : List Int) [.int .i64 (16 : Int), .int .i64 (17 : Int), .int .i64 (18 : Int), .int .i64 (0 : Int), .int .i64 (8 : Int), .int .i64 (7 : Int), .int .i64 (9 : Int), .int .i64 (6 : Int), .int .i64 (10 : Int), .int .i64 (5 : Int), .int .i64 (11 : Int), .int .i64 (4 : Int), .int .i64 (12 : Int), .int .i64 (3 : Int), .int .i64 (13 : Int), .int .i64 (2 : Int), .int .i64 (14 : Int), .int .i64 (1 : Int), .int .i64 (15 : Int)] hS Tryd.runUnderlying67 Tryd.sizeOf3 X.el3 rfl rfl rfl (by simp [Value.cells]) rfl rfl rfl rfl rfl fun w A2616 c2617 f2618 hV2619 hS => ?_
  refine st1 hS (asg rfl) rfl fun a w hS => ?_
  refine wpList_nil ?_
  refine then_n ?_
  refine wp_ret ?_
  exact s_ret (rs := [0]) hS rfl rfl (hret A2616 c2617 f2618 w hM hV2619 (hS.st.pick [0] (by kernel_rfl)))
end Go.TrydS
