/- Models of the Go functions that this statement reaches, printed by a program of mine: nothing is proved but lengths of tables. -/
import Derived.Test.YtkphnjbmheoifaaOwn
set_option linter.unusedVariables false
set_option linter.unusedSimpArgs false
namespace Go.Mo
open Go Go.Sl
structure T_huff_Table where
  counts_ : (List Int)
  symbols_ : (List Int)
  deriving Inhabited
structure T_huff_packet where
  often_ : Int
  symbols_ : (List Int)
  deriving Inhabited
structure T_bits_place where
  at_ : Int
  deriving Inhabited
structure T_bits_Reader where
  place_ : T_bits_place
  text_ : List UInt8
  deriving Inhabited
structure T_mortiseref05_Reader where
  S_ : List UInt8
  At_ : Int
  deriving Inhabited
structure T_bits_Writer where
  place_ : T_bits_place
  bytes_ : (List Int)
  deriving Inhabited
abbrev ty_string : TypeId := 9

def huff_count.j2 (K : Nat)  (c_73 : (List Int)) : Res ((List Int) × Bool) :=
  lt (c_73.set (Int.toNat (0 : Int)) (0 : Int)) fun (zs80 : (List Int)) =>
  .ok (zs80, true)

def huff_count.l1 (K : Nat) (lengths26 : List Int) : Nat → (List Int) → Int → Res ((List Int) × Bool)
  | 0, _, _ => .fail
  | k + 1, c_55, v59 =>
    cond (decide (v59 < (lengths26.length : Int)))
      (
      chk (inb v59 lengths26.length) <|
      lt ((rd lengths26 v59)) fun (n_63 : Int) =>
      cond ((decide (n_63 < (0 : Int))) || (decide (n_63 > (15 : Int))))
        (
        .ok (c_55, false))
        (
        chk (inb n_63 16) <|
        lt (c_55.set (Int.toNat n_63) (w64 ((rd c_55 n_63) + (1 : Int)))) fun (zs70 : (List Int)) =>
        huff_count.l1 K lengths26 k zs70 (w64 (v59 + (1 : Int)))))
      (
      huff_count.j2 K c_55)

def huff_count.m (K : Nat) (lengths26 : List Int) : Res ((List Int) × Bool) :=
  cond (decide ((lengths26.length : Int) > (320 : Int)))
    (
    .ok ((List.replicate 16 (0 : Int)), false))
    (
    huff_count.l1 K lengths26 K (List.replicate 16 (0 : Int)) (0 : Int))

def huff_Check.j2 (K : Nat) (x87 : (List Int)) (sum105 : Int) : Res Int :=
  cond (((sum105 == (0 : Int)) || (sum105 == (32768 : Int))) || (x87 == ([0, (1 : Int), 0, 0, 0, 0, 0, 0, 0, 0, 0, 0, 0, 0, 0, 0] : List Int)))
    (
    .ok (0 : Int))
    (
    .ok (3 : Int))

def huff_Check.l1 (K : Nat) (x87 : (List Int)) : Nat → Int → Int → Res Int
  | 0, _, _ => .fail
  | k + 1, sum96, v97 =>
    cond (decide (v97 < (16 : Int)))
      (
      chk (inb v97 16) <|
      lt ((rd x87 v97)) fun (k_101 : Int) =>
      chk (decide (0 ≤ v97)) <|
      lt ((w64 (sum96 + (w64 (k_101 * (ishr .i64 (32768 : Int) v97)))))) fun (sum103 : Int) =>
      huff_Check.l1 K x87 k sum103 (w64 (v97 + (1 : Int))))
      (
      huff_Check.j2 K x87 sum96)

def huff_Check.m (K : Nat) (lengths21 : List Int) : Res Int :=
  (huff_count.m K lengths21).bind fun (x87, x88) =>
  cond (!x88)
    (
    .ok (1 : Int))
    (
    huff_Check.l1 K x87 K (0 : Int) (0 : Int))

def huff_counted_firsts.j2 (K : Nat)  (first164 : (List Int)) : Res (List Int) :=
  .ok first164

def huff_counted_firsts.l1 (K : Nat) (c_121 : List Int) : Nat → (List Int) → Int → Int → Res (List Int)
  | 0, _, _, _ => .fail
  | k + 1, first147, code151, n_152 =>
    cond (decide (n_152 ≤ (15 : Int)))
      (
      chk (inb (w64 (n_152 - (1 : Int))) 16) <|
      lt ((ishl .i64 (w64 (code151 + (rd c_121 (w64 (n_152 - (1 : Int)))))) (1 : Int))) fun (code156 : Int) =>
      chk (inb n_152 16) <|
      lt (first147.set (Int.toNat n_152) code156) fun (zs160 : (List Int)) =>
      lt ((w64 (n_152 + (1 : Int)))) fun (n_162 : Int) =>
      huff_counted_firsts.l1 K c_121 k zs160 code156 n_162)
      (
      huff_counted_firsts.j2 K first147)

def huff_counted_firsts.m (K : Nat) (c_121 : List Int) : Res (List Int) :=
  huff_counted_firsts.l1 K c_121 K (List.replicate 16 (0 : Int)) (0 : Int) (1 : Int)

def huff_Codes.l1 (K : Nat) (lengths14 : List Int) : Nat → (List Int) → (List Int) → Int → Res ((List Int) × Int)
  | 0, _, _, _ => .fail
  | k + 1, next210, out214, v217 =>
    cond (decide (v217 < (lengths14.length : Int)))
      (
      chk (inb v217 lengths14.length) <|
      lt ((rd lengths14 v217)) fun (n_221 : Int) =>
      cond (decide (n_221 > (0 : Int)))
        (
        chk (inb n_221 16) <|
        chk (inb v217 out214.length) <|
        lt (out214.set (Int.toNat v217) (rd next210 n_221)) fun (zs227 : (List Int)) =>
        lt (next210.set (Int.toNat n_221) (w64 ((rd next210 n_221) + (1 : Int)))) fun (zs231 : (List Int)) =>
        huff_Codes.l1 K lengths14 k zs231 zs227 (w64 (v217 + (1 : Int))))
        (
        huff_Codes.l1 K lengths14 k next210 out214 (w64 (v217 + (1 : Int)))))
      (
      .ok (out214, (0 : Int)))

def huff_Codes.m (K : Nat) (lengths14 : List Int) : Res ((List Int) × Int) :=
  (huff_Check.m K lengths14).bind fun x109 =>
  cond (x109 != (0 : Int))
    (
    .ok (([] : List Int), x109))
    (
    (huff_count.m K lengths14).bind fun (x113, x114) =>
    (huff_counted_firsts.m K x113).bind fun x173 =>
    chk (decide (0 ≤ (lengths14.length : Int)) && room (Int.toNat (lengths14.length : Int)) 8) <|
    lt (List.replicate (Int.toNat (lengths14.length : Int)) (0 : Int)) fun (zs185 : (List Int)) =>
    huff_Codes.l1 K lengths14 K x173 zs185 (0 : Int))

def mortiseref06_Check.j4 (K : Nat) (sum275 : Int) (v283 : Bool) : Res Int :=
  cond (v283 || (sum275 == (32768 : Int)))
    (
    .ok (0 : Int))
    (
    .ok (3 : Int))

def mortiseref06_Check.j3 (K : Nat) (sum275 : Int) (v281 : Bool) : Res Int :=
  mortiseref06_Check.j4 K sum275 v281

def mortiseref06_Check.j2 (K : Nat)  (sum275 : Int) (n_276 : Int) (last277 : Int) : Res Int :=
  cond (n_276 == (0 : Int))
    (
    mortiseref06_Check.j4 K sum275 true)
    (
    cond (n_276 == (1 : Int))
      (
      mortiseref06_Check.j3 K sum275 (last277 == (1 : Int)))
      (
      mortiseref06_Check.j3 K sum275 false))

def mortiseref06_Check.l1 (K : Nat) (l_253 : List Int) : Nat → Int → Int → Int → Int → Res Int
  | 0, _, _, _, _ => .fail
  | k + 1, sum259, n_260, last261, i262 =>
    cond (decide (i262 < (l_253.length : Int)))
      (
      chk (inb i262 l_253.length) <|
      cond ((decide ((rd l_253 i262) < (0 : Int))) || (decide ((rd l_253 i262) > (15 : Int))))
        (
        .ok (1 : Int))
        (
        cond (decide ((rd l_253 i262) > (0 : Int)))
          (
          chk (decide (0 ≤ (wr .u64 (w64 ((15 : Int) - (rd l_253 i262)))))) <|
          lt ((w64 (sum259 + (ishl .i64 (1 : Int) (wr .u64 (w64 ((15 : Int) - (rd l_253 i262)))))))) fun (sum269 : Int) =>
          lt ((w64 (n_260 + (1 : Int)))) fun (n_270 : Int) =>
          lt ((rd l_253 i262)) fun (last271 : Int) =>
          lt ((w64 (i262 + (1 : Int)))) fun (i272 : Int) =>
          mortiseref06_Check.l1 K l_253 k sum269 n_270 last271 i272)
          (
          lt ((w64 (i262 + (1 : Int)))) fun (i273 : Int) =>
          mortiseref06_Check.l1 K l_253 k sum259 n_260 last261 i273)))
      (
      mortiseref06_Check.j2 K sum259 n_260 last261)

def mortiseref06_Check.m (K : Nat) (l_253 : List Int) : Res Int :=
  cond (decide ((l_253.length : Int) > (320 : Int)))
    (
    .ok (1 : Int))
    (
    mortiseref06_Check.l1 K l_253 K (0 : Int) (0 : Int) (0 : Int) (0 : Int))

def mortiseref06_Codes.l2 (K : Nat) (g1 : (List Int) → Int → Int → Res ((List Int) × Int)) (l_246 : List Int) (length350 : Int) : Nat → (List Int) → Int → Int → Res ((List Int) × Int)
  | 0, _, _, _ => .fail
  | k + 1, out374, code377, i378 =>
    cond (decide (i378 < (l_246.length : Int)))
      (
      chk (inb i378 l_246.length) <|
      cond ((rd l_246 i378) == length350)
        (
        chk (inb i378 out374.length) <|
        lt (out374.set (Int.toNat i378) code377) fun (zs387 : (List Int)) =>
        lt ((w64 (code377 + (1 : Int)))) fun (code389 : Int) =>
        lt ((w64 (i378 + (1 : Int)))) fun (i390 : Int) =>
        mortiseref06_Codes.l2 K g1 l_246 length350 k zs387 code389 i390)
        (
        lt ((w64 (i378 + (1 : Int)))) fun (i391 : Int) =>
        mortiseref06_Codes.l2 K g1 l_246 length350 k out374 code377 i391))
      (
      lt ((w64 (length350 + (1 : Int)))) fun (length381 : Int) =>
      g1 out374 code377 length381)

def mortiseref06_Codes.l1 (K : Nat) (l_246 : List Int) : Nat → (List Int) → Int → Int → Res ((List Int) × Int)
  | 0, _, _, _ => .fail
  | k + 1, out346, code349, length350 =>
    cond (decide (length350 ≤ (15 : Int)))
      (
      lt ((w64 (code349 * (2 : Int)))) fun (code353 : Int) =>
      mortiseref06_Codes.l2 K (mortiseref06_Codes.l1 K l_246 k) l_246 length350 K out346 code353 (0 : Int))
      (
      .ok (out346, (0 : Int)))

def mortiseref06_Codes.m (K : Nat) (l_246 : List Int) : Res ((List Int) × Int) :=
  (mortiseref06_Check.m K l_246).bind fun x287 =>
  cond (x287 != (0 : Int))
    (
    .ok (([] : List Int), x287))
    (
    chk (decide (0 ≤ (l_246.length : Int)) && room (Int.toNat (l_246.length : Int)) 8) <|
    lt (List.replicate (Int.toNat (l_246.length : Int)) (0 : Int)) fun (zs296 : (List Int)) =>
    mortiseref06_Codes.l1 K l_246 K zs296 (0 : Int) (1 : Int))

def mortiseref06_SameInts.l1 (K : Nat) (a_407 : List Int) (b_412 : List Int) : Nat → Int → Res Bool
  | 0, _ => .fail
  | k + 1, i418 =>
    cond (decide (i418 < (a_407.length : Int)))
      (
      chk (inb i418 a_407.length) <|
      chk (inb i418 b_412.length) <|
      cond ((rd a_407 i418) != (rd b_412 i418))
        (
        .ok false)
        (
        lt ((w64 (i418 + (1 : Int)))) fun (i426 : Int) =>
        mortiseref06_SameInts.l1 K a_407 b_412 k i426))
      (
      .ok true)

def mortiseref06_SameInts.m (K : Nat) (a_407 : List Int) (b_412 : List Int) : Res Bool :=
  cond ((a_407.length : Int) != (b_412.length : Int))
    (
    .ok false)
    (
    mortiseref06_SameInts.l1 K a_407 b_412 K (0 : Int))

def huff_New.l2 (K : Nat) (g1 : (List Int) → Int → Res ((Option T_huff_Table) × Int)) (lengths456 : List Int) (n_545 : Int) : Nat → (List Int) → Int → Res ((Option T_huff_Table) × Int)
  | 0, _, _ => .fail
  | k + 1, symbols577, v582 =>
    cond (decide (v582 < (lengths456.length : Int)))
      (
      chk (inb v582 lengths456.length) <|
      lt ((rd lengths456 v582)) fun (k_587 : Int) =>
      cond (k_587 == n_545)
        (
        chk (room (symbols577.length + ([v582] : List Int).length) 8) <|
        lt (symbols577 ++ ([v582] : List Int)) fun (zs598 : (List Int)) =>
        huff_New.l2 K g1 lengths456 n_545 k zs598 (w64 (v582 + (1 : Int))))
        (
        huff_New.l2 K g1 lengths456 n_545 k symbols577 (w64 (v582 + (1 : Int)))))
      (
      lt ((w64 (n_545 + (1 : Int)))) fun (n_585 : Int) =>
      g1 symbols577 n_585)

def huff_New.l1 (K : Nat) (lengths456 : List Int) (x468 : (List Int)) : Nat → (List Int) → Int → Res ((Option T_huff_Table) × Int)
  | 0, _, _ => .fail
  | k + 1, symbols540, n_545 =>
    cond (decide (n_545 ≤ (15 : Int)))
      (
      huff_New.l2 K (huff_New.l1 K lengths456 x468 k) lengths456 n_545 K symbols540 (0 : Int))
      (
      .ok ((some (T_huff_Table.mk x468 symbols540)), (0 : Int)))

def huff_New.m (K : Nat) (lengths456 : List Int) : Res ((Option T_huff_Table) × Int) :=
  (huff_Check.m K lengths456).bind fun x461 =>
  cond (x461 != (0 : Int))
    (
    .ok (none, x461))
    (
    (huff_count.m K lengths456).bind fun (x468, x469) =>
    huff_New.l1 K lengths456 x468 K ([] : List Int) (1 : Int))

def huff_Lengths_1.m (K : Nat) (n_650 : Int) : Res Bool :=
  lt (((decide (n_650 < (0 : Int))) || (decide (n_650 > (1099511627776 : Int))))) fun (v651 : Bool) =>
  .ok v651

def slices_IndexFunc___int_int__5d67.l1 (K : Nat) (s641 : List Int) : Nat → Int → Res Int
  | 0, _ => .fail
  | k + 1, v646 =>
    cond (decide (v646 < (s641.length : Int)))
      (
      chk (inb v646 s641.length) <|
      (huff_Lengths_1.m K (rd s641 v646)).bind fun x653 =>
      cond x653
        (
        .ok v646)
        (
        slices_IndexFunc___int_int__5d67.l1 K s641 k (w64 (v646 + (1 : Int)))))
      (
      .ok (-1 : Int))

def slices_IndexFunc___int_int__5d67.m (K : Nat) (s641 : List Int) : Res Int :=
  slices_IndexFunc___int_int__5d67.l1 K s641 K (0 : Int)

def slices_ContainsFunc___int_int__5d67.m (K : Nat) (s636 : List Int) : Res Bool :=
  (slices_IndexFunc___int_int__5d67.m K s636).bind fun x657 =>
  lt ((decide (x657 ≥ (0 : Int)))) fun (v658 : Bool) =>
  .ok v658

def cmp_isNaN_int_.m (K : Nat) (x859 : Int) : Res Bool :=
  lt ((x859 != x859)) fun (v860 : Bool) =>
  .ok v860

def cmp_Compare_int_.m (K : Nat) (x857 : Int) (y858 : Int) : Res Int :=
  (cmp_isNaN_int_.m K x857).bind fun x862 =>
  (cmp_isNaN_int_.m K y858).bind fun x863 =>
  cond x862
    (
    cond x863
      (
      .ok (0 : Int))
      (
      .ok (-1 : Int)))
    (
    cond x863
      (
      .ok (1 : Int))
      (
      cond (decide (x857 < y858))
        (
        .ok (-1 : Int))
        (
        cond (decide (x857 > y858))
          (
          .ok (1 : Int))
          (
          .ok (0 : Int)))))

def huff_Lengths_2.m (K : Nat) (x841 : T_huff_packet) (y846 : T_huff_packet) : Res Int :=
  (cmp_Compare_int_.m K x841.often_ y846.often_).bind fun x870 =>
  .ok x870

def slices_insertionSortCmpFunc_huff_packet__b6e1_5de2.j3 (K : Nat) (g1 : (List T_huff_packet) → Int → Res (List T_huff_packet)) (g2 : (List T_huff_packet) → Int → Res (List T_huff_packet)) (i1004 : Int) (data1076 : (List T_huff_packet)) (j1081 : Int) (v1099 : Bool) : Res (List T_huff_packet) :=
  cond v1099
    (
    chk (inb (w64 (j1081 - (1 : Int))) data1076.length) <|
    chk (inb j1081 data1076.length) <|
    lt (data1076.set (Int.toNat j1081) (T_huff_packet.mk ((rd data1076 (w64 (j1081 - (1 : Int)))).often_) ((rd data1076 (w64 (j1081 - (1 : Int)))).symbols_))) fun (zs1124 : (List T_huff_packet)) =>
    chk (inb (w64 (j1081 - (1 : Int))) zs1124.length) <|
    lt (zs1124.set (Int.toNat (w64 (j1081 - (1 : Int)))) (T_huff_packet.mk ((rd data1076 j1081).often_) ((rd data1076 j1081).symbols_))) fun (zs1137 : (List T_huff_packet)) =>
    lt ((w64 (j1081 - (1 : Int)))) fun (j1141 : Int) =>
    g2 zs1137 j1141)
    (
    lt ((w64 (i1004 + (1 : Int)))) fun (i1102 : Int) =>
    g1 data1076 i1102)

def slices_insertionSortCmpFunc_huff_packet__b6e1_5de2.l2 (K : Nat) (g1 : (List T_huff_packet) → Int → Res (List T_huff_packet)) (a_816 : Int) (i1004 : Int) : Nat → (List T_huff_packet) → Int → Res (List T_huff_packet)
  | 0, _, _ => .fail
  | k + 1, data1076, j1081 =>
    cond (decide (j1081 > a_816))
      (
      chk (inb j1081 data1076.length) <|
      chk (inb (w64 (j1081 - (1 : Int))) data1076.length) <|
      (huff_Lengths_2.m K (T_huff_packet.mk ((rd data1076 j1081).often_) ((rd data1076 j1081).symbols_)) (T_huff_packet.mk ((rd data1076 (w64 (j1081 - (1 : Int)))).often_) ((rd data1076 (w64 (j1081 - (1 : Int)))).symbols_))).bind fun x1098 =>
      slices_insertionSortCmpFunc_huff_packet__b6e1_5de2.j3 K (g1) (slices_insertionSortCmpFunc_huff_packet__b6e1_5de2.l2 K g1 a_816 i1004 k) i1004 data1076 j1081 (decide (x1098 < (0 : Int))))
      (
      slices_insertionSortCmpFunc_huff_packet__b6e1_5de2.j3 K (g1) (slices_insertionSortCmpFunc_huff_packet__b6e1_5de2.l2 K g1 a_816 i1004 k) i1004 data1076 j1081 false)

def slices_insertionSortCmpFunc_huff_packet__b6e1_5de2.l1 (K : Nat) (a_816 : Int) (b_817 : Int) : Nat → (List T_huff_packet) → Int → Res (List T_huff_packet)
  | 0, _, _ => .fail
  | k + 1, data999, i1004 =>
    cond (decide (i1004 < b_817))
      (
      slices_insertionSortCmpFunc_huff_packet__b6e1_5de2.l2 K (slices_insertionSortCmpFunc_huff_packet__b6e1_5de2.l1 K a_816 b_817 k) a_816 i1004 K data999 i1004)
      (
      .ok data999)

def slices_insertionSortCmpFunc_huff_packet__b6e1_5de2.m (K : Nat) (data808 : List T_huff_packet) (a_816 : Int) (b_817 : Int) : Res (List T_huff_packet) :=
  lt ((w64 (a_816 + (1 : Int)))) fun (i820 : Int) =>
  slices_insertionSortCmpFunc_huff_packet__b6e1_5de2.l1 K a_816 b_817 K data808 i820

def slices_swapRangeCmpFunc_huff_packet__b6e1_7e8b.l1 (K : Nat) (a_1534 : Int) (b_1535 : Int) (n_1536 : Int) : Nat → (List T_huff_packet) → Int → Res (List T_huff_packet)
  | 0, _, _ => .fail
  | k + 1, data1589, i1594 =>
    cond (decide (i1594 < n_1536))
      (
      chk (inb (w64 (b_1535 + i1594)) data1589.length) <|
      chk (inb (w64 (a_1534 + i1594)) data1589.length) <|
      lt (data1589.set (Int.toNat (w64 (a_1534 + i1594))) (T_huff_packet.mk ((rd data1589 (w64 (b_1535 + i1594))).often_) ((rd data1589 (w64 (b_1535 + i1594))).symbols_))) fun (zs1618 : (List T_huff_packet)) =>
      chk (inb (w64 (b_1535 + i1594)) zs1618.length) <|
      lt (zs1618.set (Int.toNat (w64 (b_1535 + i1594))) (T_huff_packet.mk ((rd data1589 (w64 (a_1534 + i1594))).often_) ((rd data1589 (w64 (a_1534 + i1594))).symbols_))) fun (zs1631 : (List T_huff_packet)) =>
      lt ((w64 (i1594 + (1 : Int)))) fun (i1635 : Int) =>
      slices_swapRangeCmpFunc_huff_packet__b6e1_7e8b.l1 K a_1534 b_1535 n_1536 k zs1631 i1635)
      (
      .ok data1589)

def slices_swapRangeCmpFunc_huff_packet__b6e1_7e8b.m (K : Nat) (data1526 : List T_huff_packet) (a_1534 : Int) (b_1535 : Int) (n_1536 : Int) : Res (List T_huff_packet) :=
  slices_swapRangeCmpFunc_huff_packet__b6e1_7e8b.l1 K a_1534 b_1535 n_1536 K data1526 (0 : Int)

def slices_rotateCmpFunc_huff_packet__b6e1_7e8b.j2 (K : Nat) (m1515 : Int) (data1696 : (List T_huff_packet)) (i1701 : Int) : Res (List T_huff_packet) :=
  (slices_swapRangeCmpFunc_huff_packet__b6e1_7e8b.m K data1696 (w64 (m1515 - i1701)) m1515 i1701).bind fun data1704 =>
  .ok data1704

def slices_rotateCmpFunc_huff_packet__b6e1_7e8b.l1 (K : Nat) (m1515 : Int) : Nat → (List T_huff_packet) → Int → Int → Res (List T_huff_packet)
  | 0, _, _, _ => .fail
  | k + 1, data1668, i1673, j1674 =>
    cond (i1673 != j1674)
      (
      cond (decide (i1673 > j1674))
        (
        (slices_swapRangeCmpFunc_huff_packet__b6e1_7e8b.m K data1668 (w64 (m1515 - i1673)) m1515 j1674).bind fun data1679 =>
        lt ((w64 (i1673 - j1674))) fun (i1685 : Int) =>
        slices_rotateCmpFunc_huff_packet__b6e1_7e8b.l1 K m1515 k data1679 i1685 j1674)
        (
        (slices_swapRangeCmpFunc_huff_packet__b6e1_7e8b.m K data1668 (w64 (m1515 - i1673)) (w64 ((w64 (m1515 + j1674)) - i1673)) i1673).bind fun data1687 =>
        lt ((w64 (j1674 - i1673))) fun (j1693 : Int) =>
        slices_rotateCmpFunc_huff_packet__b6e1_7e8b.l1 K m1515 k data1687 i1673 j1693))
      (
      slices_rotateCmpFunc_huff_packet__b6e1_7e8b.j2 K m1515 data1668 i1673)

def slices_rotateCmpFunc_huff_packet__b6e1_7e8b.m (K : Nat) (data1506 : List T_huff_packet) (a_1514 : Int) (m1515 : Int) (b_1516 : Int) : Res (List T_huff_packet) :=
  lt ((w64 (m1515 - a_1514))) fun (i1519 : Int) =>
  lt ((w64 (b_1516 - m1515))) fun (j1520 : Int) =>
  slices_rotateCmpFunc_huff_packet__b6e1_7e8b.l1 K m1515 K data1506 i1519 j1520

def slices_symMergeCmpFunc_huff_packet__b6e1_7e8b.l3 (K : Nat) (rc : (List T_huff_packet) → Int → Int → Int → Res (List T_huff_packet)) (i1775 : Int) : Nat → (List T_huff_packet) → Int → Res (List T_huff_packet)
  | 0, _, _ => .fail
  | k + 1, data1827, k_1832 =>
    cond (decide (k_1832 < (w64 (i1775 - (1 : Int)))))
      (
      chk (inb (w64 (k_1832 + (1 : Int))) data1827.length) <|
      chk (inb k_1832 data1827.length) <|
      lt (data1827.set (Int.toNat k_1832) (T_huff_packet.mk ((rd data1827 (w64 (k_1832 + (1 : Int)))).often_) ((rd data1827 (w64 (k_1832 + (1 : Int)))).symbols_))) fun (zs1856 : (List T_huff_packet)) =>
      chk (inb (w64 (k_1832 + (1 : Int))) zs1856.length) <|
      lt (zs1856.set (Int.toNat (w64 (k_1832 + (1 : Int)))) (T_huff_packet.mk ((rd data1827 k_1832).often_) ((rd data1827 k_1832).symbols_))) fun (zs1869 : (List T_huff_packet)) =>
      lt ((w64 (k_1832 + (1 : Int)))) fun (k_1873 : Int) =>
      slices_symMergeCmpFunc_huff_packet__b6e1_7e8b.l3 K rc i1775 k zs1869 k_1873)
      (
      .ok data1827)

def slices_symMergeCmpFunc_huff_packet__b6e1_7e8b.j2 (K : Nat) (rc : (List T_huff_packet) → Int → Int → Int → Res (List T_huff_packet)) (data1738 : List T_huff_packet) (a_1746 : Int) (i1775 : Int) : Res (List T_huff_packet) :=
  slices_symMergeCmpFunc_huff_packet__b6e1_7e8b.l3 K rc i1775 K data1738 a_1746

def slices_symMergeCmpFunc_huff_packet__b6e1_7e8b.l1 (K : Nat) (rc : (List T_huff_packet) → Int → Int → Int → Res (List T_huff_packet)) (data1738 : List T_huff_packet) (a_1746 : Int) : Nat → Int → Int → Res (List T_huff_packet)
  | 0, _, _ => .fail
  | k + 1, i1752, j1753 =>
    cond (decide (i1752 < j1753))
      (
      lt ((wr .i64 (ishr .u64 (wr .u64 (w64 (i1752 + j1753))) (1 : Int)))) fun (h1756 : Int) =>
      chk (inb h1756 data1738.length) <|
      chk (inb a_1746 data1738.length) <|
      (huff_Lengths_2.m K (T_huff_packet.mk ((rd data1738 h1756).often_) ((rd data1738 h1756).symbols_)) (T_huff_packet.mk ((rd data1738 a_1746).often_) ((rd data1738 a_1746).symbols_))).bind fun x1771 =>
      cond (decide (x1771 < (0 : Int)))
        (
        lt ((w64 (h1756 + (1 : Int)))) fun (i1773 : Int) =>
        slices_symMergeCmpFunc_huff_packet__b6e1_7e8b.l1 K rc data1738 a_1746 k i1773 j1753)
        (
        slices_symMergeCmpFunc_huff_packet__b6e1_7e8b.l1 K rc data1738 a_1746 k i1752 h1756))
      (
      slices_symMergeCmpFunc_huff_packet__b6e1_7e8b.j2 K rc data1738 a_1746 i1752)

def slices_symMergeCmpFunc_huff_packet__b6e1_7e8b.l7 (K : Nat) (rc : (List T_huff_packet) → Int → Int → Int → Res (List T_huff_packet)) (i1900 : Int) : Nat → (List T_huff_packet) → Int → Res (List T_huff_packet)
  | 0, _, _ => .fail
  | k + 1, data1952, k_1957 =>
    cond (decide (k_1957 > i1900))
      (
      chk (inb (w64 (k_1957 - (1 : Int))) data1952.length) <|
      chk (inb k_1957 data1952.length) <|
      lt (data1952.set (Int.toNat k_1957) (T_huff_packet.mk ((rd data1952 (w64 (k_1957 - (1 : Int)))).often_) ((rd data1952 (w64 (k_1957 - (1 : Int)))).symbols_))) fun (zs1981 : (List T_huff_packet)) =>
      chk (inb (w64 (k_1957 - (1 : Int))) zs1981.length) <|
      lt (zs1981.set (Int.toNat (w64 (k_1957 - (1 : Int)))) (T_huff_packet.mk ((rd data1952 k_1957).often_) ((rd data1952 k_1957).symbols_))) fun (zs1994 : (List T_huff_packet)) =>
      lt ((w64 (k_1957 - (1 : Int)))) fun (k_1998 : Int) =>
      slices_symMergeCmpFunc_huff_packet__b6e1_7e8b.l7 K rc i1900 k zs1994 k_1998)
      (
      .ok data1952)

def slices_symMergeCmpFunc_huff_packet__b6e1_7e8b.j6 (K : Nat) (rc : (List T_huff_packet) → Int → Int → Int → Res (List T_huff_packet)) (data1738 : List T_huff_packet) (m1747 : Int) (i1900 : Int) : Res (List T_huff_packet) :=
  slices_symMergeCmpFunc_huff_packet__b6e1_7e8b.l7 K rc i1900 K data1738 m1747

def slices_symMergeCmpFunc_huff_packet__b6e1_7e8b.l5 (K : Nat) (rc : (List T_huff_packet) → Int → Int → Int → Res (List T_huff_packet)) (data1738 : List T_huff_packet) (m1747 : Int) : Nat → Int → Int → Res (List T_huff_packet)
  | 0, _, _ => .fail
  | k + 1, i1877, j1878 =>
    cond (decide (i1877 < j1878))
      (
      lt ((wr .i64 (ishr .u64 (wr .u64 (w64 (i1877 + j1878))) (1 : Int)))) fun (h1881 : Int) =>
      chk (inb m1747 data1738.length) <|
      chk (inb h1881 data1738.length) <|
      (huff_Lengths_2.m K (T_huff_packet.mk ((rd data1738 m1747).often_) ((rd data1738 m1747).symbols_)) (T_huff_packet.mk ((rd data1738 h1881).often_) ((rd data1738 h1881).symbols_))).bind fun x1896 =>
      cond (!(decide (x1896 < (0 : Int))))
        (
        lt ((w64 (h1881 + (1 : Int)))) fun (i1898 : Int) =>
        slices_symMergeCmpFunc_huff_packet__b6e1_7e8b.l5 K rc data1738 m1747 k i1898 j1878)
        (
        slices_symMergeCmpFunc_huff_packet__b6e1_7e8b.l5 K rc data1738 m1747 k i1877 h1881))
      (
      slices_symMergeCmpFunc_huff_packet__b6e1_7e8b.j6 K rc data1738 m1747 i1877)

def slices_symMergeCmpFunc_huff_packet__b6e1_7e8b.j13 (K : Nat) (rc : (List T_huff_packet) → Int → Int → Int → Res (List T_huff_packet)) (b_1748 : Int) (mid2001 : Int) (end_2034 : Int) (data2059 : (List T_huff_packet)) : Res (List T_huff_packet) :=
  cond ((decide (mid2001 < end_2034)) && (decide (end_2034 < b_1748)))
    (
    (rc data2059 mid2001 end_2034 b_1748).bind fun data2067 =>
    .ok data2067)
    (
    .ok data2059)

def slices_symMergeCmpFunc_huff_packet__b6e1_7e8b.j12 (K : Nat) (rc : (List T_huff_packet) → Int → Int → Int → Res (List T_huff_packet)) (a_1746 : Int) (b_1748 : Int) (mid2001 : Int) (start2032 : Int) (end_2034 : Int) (data2044 : (List T_huff_packet)) : Res (List T_huff_packet) :=
  cond ((decide (a_1746 < start2032)) && (decide (start2032 < mid2001)))
    (
    (rc data2044 a_1746 start2032 mid2001).bind fun data2052 =>
    slices_symMergeCmpFunc_huff_packet__b6e1_7e8b.j13 K rc b_1748 mid2001 end_2034 data2052)
    (
    slices_symMergeCmpFunc_huff_packet__b6e1_7e8b.j13 K rc b_1748 mid2001 end_2034 data2044)

def slices_symMergeCmpFunc_huff_packet__b6e1_7e8b.j11 (K : Nat) (rc : (List T_huff_packet) → Int → Int → Int → Res (List T_huff_packet)) (data1738 : List T_huff_packet) (a_1746 : Int) (m1747 : Int) (b_1748 : Int) (mid2001 : Int) (n_2002 : Int) (start2032 : Int) : Res (List T_huff_packet) :=
  lt ((w64 (n_2002 - start2032))) fun (end_2034 : Int) =>
  cond ((decide (start2032 < m1747)) && (decide (m1747 < end_2034)))
    (
    (slices_rotateCmpFunc_huff_packet__b6e1_7e8b.m K data1738 start2032 m1747 end_2034).bind fun data2037 =>
    slices_symMergeCmpFunc_huff_packet__b6e1_7e8b.j12 K rc a_1746 b_1748 mid2001 start2032 end_2034 data2037)
    (
    slices_symMergeCmpFunc_huff_packet__b6e1_7e8b.j12 K rc a_1746 b_1748 mid2001 start2032 end_2034 data1738)

def slices_symMergeCmpFunc_huff_packet__b6e1_7e8b.l10 (K : Nat) (rc : (List T_huff_packet) → Int → Int → Int → Res (List T_huff_packet)) (data1738 : List T_huff_packet) (a_1746 : Int) (m1747 : Int) (b_1748 : Int) (mid2001 : Int) (n_2002 : Int) (p2008 : Int) : Nat → Int → Int → Res (List T_huff_packet)
  | 0, _, _ => .fail
  | k + 1, start2009, r2010 =>
    cond (decide (start2009 < r2010))
      (
      lt ((wr .i64 (ishr .u64 (wr .u64 (w64 (start2009 + r2010))) (1 : Int)))) fun (c_2013 : Int) =>
      chk (inb (w64 (p2008 - c_2013)) data1738.length) <|
      chk (inb c_2013 data1738.length) <|
      (huff_Lengths_2.m K (T_huff_packet.mk ((rd data1738 (w64 (p2008 - c_2013))).often_) ((rd data1738 (w64 (p2008 - c_2013))).symbols_)) (T_huff_packet.mk ((rd data1738 c_2013).often_) ((rd data1738 c_2013).symbols_))).bind fun x2028 =>
      cond (!(decide (x2028 < (0 : Int))))
        (
        lt ((w64 (c_2013 + (1 : Int)))) fun (start2030 : Int) =>
        slices_symMergeCmpFunc_huff_packet__b6e1_7e8b.l10 K rc data1738 a_1746 m1747 b_1748 mid2001 n_2002 p2008 k start2030 r2010)
        (
        slices_symMergeCmpFunc_huff_packet__b6e1_7e8b.l10 K rc data1738 a_1746 m1747 b_1748 mid2001 n_2002 p2008 k start2009 c_2013))
      (
      slices_symMergeCmpFunc_huff_packet__b6e1_7e8b.j11 K rc data1738 a_1746 m1747 b_1748 mid2001 n_2002 start2009)

def slices_symMergeCmpFunc_huff_packet__b6e1_7e8b.j9 (K : Nat) (rc : (List T_huff_packet) → Int → Int → Int → Res (List T_huff_packet)) (data1738 : List T_huff_packet) (a_1746 : Int) (m1747 : Int) (b_1748 : Int) (mid2001 : Int) (n_2002 : Int) (start2005 : Int) (r2006 : Int) : Res (List T_huff_packet) :=
  lt ((w64 (n_2002 - (1 : Int)))) fun (p2008 : Int) =>
  slices_symMergeCmpFunc_huff_packet__b6e1_7e8b.l10 K rc data1738 a_1746 m1747 b_1748 mid2001 n_2002 p2008 K start2005 r2006

def slices_symMergeCmpFunc_huff_packet__b6e1_7e8b.j8 (K : Nat) (rc : (List T_huff_packet) → Int → Int → Int → Res (List T_huff_packet)) (data1738 : List T_huff_packet) (a_1746 : Int) (m1747 : Int) (b_1748 : Int) : Res (List T_huff_packet) :=
  lt ((wr .i64 (ishr .u64 (wr .u64 (w64 (a_1746 + b_1748))) (1 : Int)))) fun (mid2001 : Int) =>
  lt ((w64 (mid2001 + m1747))) fun (n_2002 : Int) =>
  cond (decide (m1747 > mid2001))
    (
    lt ((w64 (n_2002 - b_1748))) fun (start2004 : Int) =>
    slices_symMergeCmpFunc_huff_packet__b6e1_7e8b.j9 K rc data1738 a_1746 m1747 b_1748 mid2001 n_2002 start2004 mid2001)
    (
    slices_symMergeCmpFunc_huff_packet__b6e1_7e8b.j9 K rc data1738 a_1746 m1747 b_1748 mid2001 n_2002 a_1746 m1747)

def slices_symMergeCmpFunc_huff_packet__b6e1_7e8b.j4 (K : Nat) (rc : (List T_huff_packet) → Int → Int → Int → Res (List T_huff_packet)) (data1738 : List T_huff_packet) (a_1746 : Int) (m1747 : Int) (b_1748 : Int) : Res (List T_huff_packet) :=
  cond ((w64 (b_1748 - m1747)) == (1 : Int))
    (
    slices_symMergeCmpFunc_huff_packet__b6e1_7e8b.l5 K rc data1738 m1747 K a_1746 m1747)
    (
    slices_symMergeCmpFunc_huff_packet__b6e1_7e8b.j8 K rc data1738 a_1746 m1747 b_1748)

def slices_symMergeCmpFunc_huff_packet__b6e1_7e8b.b (K : Nat) (rc : (List T_huff_packet) → Int → Int → Int → Res (List T_huff_packet)) (data1738 : List T_huff_packet) (a_1746 : Int) (m1747 : Int) (b_1748 : Int) : Res (List T_huff_packet) :=
  cond ((w64 (m1747 - a_1746)) == (1 : Int))
    (
    slices_symMergeCmpFunc_huff_packet__b6e1_7e8b.l1 K rc data1738 a_1746 K m1747 b_1748)
    (
    slices_symMergeCmpFunc_huff_packet__b6e1_7e8b.j4 K rc data1738 a_1746 m1747 b_1748)

def slices_symMergeCmpFunc_huff_packet__b6e1_7e8b.r (K : Nat) : Nat → (List T_huff_packet) → Int → Int → Int → Res (List T_huff_packet)
  | 0 => fun _ _ _ _ => .fail
  | d + 1 => slices_symMergeCmpFunc_huff_packet__b6e1_7e8b.b K (slices_symMergeCmpFunc_huff_packet__b6e1_7e8b.r K d)

def slices_symMergeCmpFunc_huff_packet__b6e1_7e8b.m (K : Nat) (data1738 : List T_huff_packet) (a_1746 : Int) (m1747 : Int) (b_1748 : Int) : Res (List T_huff_packet) := slices_symMergeCmpFunc_huff_packet__b6e1_7e8b.r K K data1738 a_1746 m1747 b_1748

def slices_stableCmpFunc_huff_packet__b6e1_8977.j5 (K : Nat) (g3 : (List T_huff_packet) → Int → Res (List T_huff_packet)) (n_801 : Int) (blockSize2146 : Int) (data2190 : (List T_huff_packet)) (a_2195 : Int) : Res (List T_huff_packet) :=
  lt ((w64 (a_2195 + blockSize2146))) fun (m2197 : Int) =>
  cond (decide (m2197 < n_801))
    (
    (slices_symMergeCmpFunc_huff_packet__b6e1_7e8b.m K data2190 a_2195 m2197 n_801).bind fun data2200 =>
    lt ((w64 (blockSize2146 * (2 : Int)))) fun (blockSize2206 : Int) =>
    g3 data2200 blockSize2206)
    (
    lt ((w64 (blockSize2146 * (2 : Int)))) fun (blockSize2207 : Int) =>
    g3 data2190 blockSize2207)

def slices_stableCmpFunc_huff_packet__b6e1_8977.l4 (K : Nat) (g3 : (List T_huff_packet) → Int → Res (List T_huff_packet)) (n_801 : Int) (blockSize2146 : Int) : Nat → (List T_huff_packet) → Int → Int → Res (List T_huff_packet)
  | 0, _, _, _ => .fail
  | k + 1, data2171, a_2176, b_2177 =>
    cond (decide (b_2177 ≤ n_801))
      (
      (slices_symMergeCmpFunc_huff_packet__b6e1_7e8b.m K data2171 a_2176 (w64 (a_2176 + blockSize2146)) b_2177).bind fun data2181 =>
      lt ((w64 (b_2177 + (w64 ((2 : Int) * blockSize2146))))) fun (b_2187 : Int) =>
      slices_stableCmpFunc_huff_packet__b6e1_8977.l4 K g3 n_801 blockSize2146 k data2181 b_2177 b_2187)
      (
      slices_stableCmpFunc_huff_packet__b6e1_8977.j5 K (g3) n_801 blockSize2146 data2171 a_2176)

def slices_stableCmpFunc_huff_packet__b6e1_8977.l3 (K : Nat) (n_801 : Int) : Nat → (List T_huff_packet) → Int → Res (List T_huff_packet)
  | 0, _, _ => .fail
  | k + 1, data2141, blockSize2146 =>
    cond (decide (blockSize2146 < n_801))
      (
      lt ((w64 ((2 : Int) * blockSize2146))) fun (b_2149 : Int) =>
      slices_stableCmpFunc_huff_packet__b6e1_8977.l4 K (slices_stableCmpFunc_huff_packet__b6e1_8977.l3 K n_801 k) n_801 blockSize2146 K data2141 (0 : Int) b_2149)
      (
      .ok data2141)

def slices_stableCmpFunc_huff_packet__b6e1_8977.j2 (K : Nat) (n_801 : Int) (data1186 : (List T_huff_packet)) (a_1191 : Int) : Res (List T_huff_packet) :=
  (slices_insertionSortCmpFunc_huff_packet__b6e1_5de2.m K data1186 a_1191 n_801).bind fun data1194 =>
  slices_stableCmpFunc_huff_packet__b6e1_8977.l3 K n_801 K data1194 (20 : Int)

def slices_stableCmpFunc_huff_packet__b6e1_8977.l1 (K : Nat) (n_801 : Int) : Nat → (List T_huff_packet) → Int → Int → Res (List T_huff_packet)
  | 0, _, _, _ => .fail
  | k + 1, data1167, a_1172, b_1173 =>
    cond (decide (b_1173 ≤ n_801))
      (
      (slices_insertionSortCmpFunc_huff_packet__b6e1_5de2.m K data1167 a_1172 b_1173).bind fun data1177 =>
      lt ((w64 (b_1173 + (20 : Int)))) fun (b_1183 : Int) =>
      slices_stableCmpFunc_huff_packet__b6e1_8977.l1 K n_801 k data1177 b_1173 b_1183)
      (
      slices_stableCmpFunc_huff_packet__b6e1_8977.j2 K n_801 data1167 a_1172)

def slices_stableCmpFunc_huff_packet__b6e1_8977.m (K : Nat) (data793 : List T_huff_packet) (n_801 : Int) : Res (List T_huff_packet) :=
  slices_stableCmpFunc_huff_packet__b6e1_8977.l1 K n_801 K data793 (0 : Int) (20 : Int)

def slices_SortStableFunc___huff_packet_huff_packet__b6e1_f289.m (K : Nat) (x783 : List T_huff_packet) : Res (List T_huff_packet) :=
  (slices_stableCmpFunc_huff_packet__b6e1_8977.m K x783 (x783.length : Int)).bind fun data2216 =>
  .ok data2216

def slices_Grow___int_int__f5f7.m (K : Nat) (n_2321 : Int) : Res Unit :=
  cond (decide (n_2321 < (0 : Int)))
    (
    .pan (.iface ty_string (str ([99, 97, 110, 110, 111, 116, 32, 98, 101, 32, 110, 101, 103, 97, 116, 105, 118, 101] : List UInt8))))
    (
    lt ((w64 (n_2321 - (w64 ((0 : Int) - (0 : Int)))))) fun (n_2325 : Int) =>
    cond (decide (n_2325 > (0 : Int)))
      (
      chk (decide ((0 : Int) < n_2325) && room (Int.toNat n_2325) 8) <|
      .ok ())
      (
      .ok ()))

def slices_Concat___int_int_.l3 (K : Nat) (slices2295 : List (List Int)) : Nat → (List Int) → Int → Res (List Int)
  | 0, _, _ => .fail
  | k + 1, newslice2367, v2370 =>
    cond (decide (v2370 < (slices2295.length : Int)))
      (
      chk (inb v2370 slices2295.length) <|
      chk (room (newslice2367.length + (rd slices2295 v2370).length) 8) <|
      lt (newslice2367 ++ (rd slices2295 v2370)) fun (zs2384 : (List Int)) =>
      slices_Concat___int_int_.l3 K slices2295 k zs2384 (w64 (v2370 + (1 : Int))))
      (
      .ok newslice2367)

def slices_Concat___int_int_.j2 (K : Nat) (slices2295 : List (List Int)) (size2319 : Int) : Res (List Int) :=
  (slices_Grow___int_int__f5f7.m K size2319).bind fun _ =>
  slices_Concat___int_int_.l3 K slices2295 K ([] : List Int) (0 : Int)

def slices_Concat___int_int_.l1 (K : Nat) (slices2295 : List (List Int)) : Nat → Int → Int → Res (List Int)
  | 0, _, _ => .fail
  | k + 1, size2306, v2307 =>
    cond (decide (v2307 < (slices2295.length : Int)))
      (
      chk (inb v2307 slices2295.length) <|
      lt ((w64 (size2306 + ((rd slices2295 v2307).length : Int)))) fun (size2316 : Int) =>
      cond (decide (size2316 < (0 : Int)))
        (
        .pan (.iface ty_string (str ([108, 101, 110, 32, 111, 117, 116, 32, 111, 102, 32, 114, 97, 110, 103, 101] : List UInt8))))
        (
        slices_Concat___int_int_.l1 K slices2295 k size2316 (w64 (v2307 + (1 : Int)))))
      (
      slices_Concat___int_int_.j2 K slices2295 size2306)

def slices_Concat___int_int_.m (K : Nat) (slices2295 : List (List Int)) : Res (List Int) :=
  slices_Concat___int_int_.l1 K slices2295 K (0 : Int) (0 : Int)

def huff_pairs.l1 (K : Nat) (l_2242 : List T_huff_packet) : Nat → (List T_huff_packet) → Int → Res (List T_huff_packet)
  | 0, _, _ => .fail
  | k + 1, out2437, i2441 =>
    cond (decide ((w64 (i2441 + (1 : Int))) < (l_2242.length : Int)))
      (
      chk (inb i2441 l_2242.length) <|
      chk (inb (w64 (i2441 + (1 : Int))) l_2242.length) <|
      (slices_Concat___int_int_.m K ([(rd l_2242 i2441).symbols_, (rd l_2242 (w64 (i2441 + (1 : Int)))).symbols_] : List (List Int))).bind fun x2481 =>
      chk (room (out2437.length + ([(T_huff_packet.mk (w64 ((rd l_2242 i2441).often_ + (rd l_2242 (w64 (i2441 + (1 : Int)))).often_)) x2481)] : List T_huff_packet).length) 32) <|
      lt (out2437 ++ ([(T_huff_packet.mk (w64 ((rd l_2242 i2441).often_ + (rd l_2242 (w64 (i2441 + (1 : Int)))).often_)) x2481)] : List T_huff_packet)) fun (zs2501 : (List T_huff_packet)) =>
      lt ((w64 (i2441 + (2 : Int)))) fun (i2503 : Int) =>
      huff_pairs.l1 K l_2242 k zs2501 i2503)
      (
      .ok out2437)

def huff_pairs.m (K : Nat) (l_2242 : List T_huff_packet) : Res (List T_huff_packet) :=
  huff_pairs.l1 K l_2242 K ([] : List T_huff_packet) (0 : Int)

def slices_Grow___huff_packet_huff_packet__8ef0.m (K : Nat) (n_2587 : Int) : Res Unit :=
  cond (decide (n_2587 < (0 : Int)))
    (
    .pan (.iface ty_string (str ([99, 97, 110, 110, 111, 116, 32, 98, 101, 32, 110, 101, 103, 97, 116, 105, 118, 101] : List UInt8))))
    (
    lt ((w64 (n_2587 - (w64 ((0 : Int) - (0 : Int)))))) fun (n_2593 : Int) =>
    cond (decide (n_2593 > (0 : Int)))
      (
      chk (decide ((0 : Int) < n_2593) && room (Int.toNat n_2593) 32) <|
      .ok ())
      (
      .ok ()))

def slices_Concat___huff_packet_huff_packet_.l3 (K : Nat) (slices2558 : List (List T_huff_packet)) : Nat → (List T_huff_packet) → Int → Res (List T_huff_packet)
  | 0, _, _ => .fail
  | k + 1, newslice2651, v2655 =>
    cond (decide (v2655 < (slices2558.length : Int)))
      (
      chk (inb v2655 slices2558.length) <|
      chk (room (newslice2651.length + (rd slices2558 v2655).length) 32) <|
      lt (newslice2651 ++ (rd slices2558 v2655)) fun (zs2672 : (List T_huff_packet)) =>
      slices_Concat___huff_packet_huff_packet_.l3 K slices2558 k zs2672 (w64 (v2655 + (1 : Int))))
      (
      .ok newslice2651)

def slices_Concat___huff_packet_huff_packet_.j2 (K : Nat) (slices2558 : List (List T_huff_packet)) (size2585 : Int) : Res (List T_huff_packet) :=
  (slices_Grow___huff_packet_huff_packet__8ef0.m K size2585).bind fun _ =>
  slices_Concat___huff_packet_huff_packet_.l3 K slices2558 K ([] : List T_huff_packet) (0 : Int)

def slices_Concat___huff_packet_huff_packet_.l1 (K : Nat) (slices2558 : List (List T_huff_packet)) : Nat → Int → Int → Res (List T_huff_packet)
  | 0, _, _ => .fail
  | k + 1, size2570, v2571 =>
    cond (decide (v2571 < (slices2558.length : Int)))
      (
      chk (inb v2571 slices2558.length) <|
      lt ((w64 (size2570 + ((rd slices2558 v2571).length : Int)))) fun (size2582 : Int) =>
      cond (decide (size2582 < (0 : Int)))
        (
        .pan (.iface ty_string (str ([108, 101, 110, 32, 111, 117, 116, 32, 111, 102, 32, 114, 97, 110, 103, 101] : List UInt8))))
        (
        slices_Concat___huff_packet_huff_packet_.l1 K slices2558 k size2582 (w64 (v2571 + (1 : Int)))))
      (
      slices_Concat___huff_packet_huff_packet_.j2 K slices2558 size2570)

def slices_Concat___huff_packet_huff_packet_.m (K : Nat) (slices2558 : List (List T_huff_packet)) : Res (List T_huff_packet) :=
  slices_Concat___huff_packet_huff_packet_.l1 K slices2558 K (0 : Int) (0 : Int)

def huff_merged_1.m (K : Nat) (x2751 : T_huff_packet) (y2756 : T_huff_packet) : Res Int :=
  (cmp_Compare_int_.m K x2751.often_ y2756.often_).bind fun x2767 =>
  .ok x2767

def slices_insertionSortCmpFunc_huff_packet__b6e1_dee5.j3 (K : Nat) (g1 : (List T_huff_packet) → Int → Res (List T_huff_packet)) (g2 : (List T_huff_packet) → Int → Res (List T_huff_packet)) (i2901 : Int) (data2973 : (List T_huff_packet)) (j2978 : Int) (v2996 : Bool) : Res (List T_huff_packet) :=
  cond v2996
    (
    chk (inb (w64 (j2978 - (1 : Int))) data2973.length) <|
    chk (inb j2978 data2973.length) <|
    lt (data2973.set (Int.toNat j2978) (T_huff_packet.mk ((rd data2973 (w64 (j2978 - (1 : Int)))).often_) ((rd data2973 (w64 (j2978 - (1 : Int)))).symbols_))) fun (zs3021 : (List T_huff_packet)) =>
    chk (inb (w64 (j2978 - (1 : Int))) zs3021.length) <|
    lt (zs3021.set (Int.toNat (w64 (j2978 - (1 : Int)))) (T_huff_packet.mk ((rd data2973 j2978).often_) ((rd data2973 j2978).symbols_))) fun (zs3034 : (List T_huff_packet)) =>
    lt ((w64 (j2978 - (1 : Int)))) fun (j3038 : Int) =>
    g2 zs3034 j3038)
    (
    lt ((w64 (i2901 + (1 : Int)))) fun (i2999 : Int) =>
    g1 data2973 i2999)

def slices_insertionSortCmpFunc_huff_packet__b6e1_dee5.l2 (K : Nat) (g1 : (List T_huff_packet) → Int → Res (List T_huff_packet)) (a_2726 : Int) (i2901 : Int) : Nat → (List T_huff_packet) → Int → Res (List T_huff_packet)
  | 0, _, _ => .fail
  | k + 1, data2973, j2978 =>
    cond (decide (j2978 > a_2726))
      (
      chk (inb j2978 data2973.length) <|
      chk (inb (w64 (j2978 - (1 : Int))) data2973.length) <|
      (huff_merged_1.m K (T_huff_packet.mk ((rd data2973 j2978).often_) ((rd data2973 j2978).symbols_)) (T_huff_packet.mk ((rd data2973 (w64 (j2978 - (1 : Int)))).often_) ((rd data2973 (w64 (j2978 - (1 : Int)))).symbols_))).bind fun x2995 =>
      slices_insertionSortCmpFunc_huff_packet__b6e1_dee5.j3 K (g1) (slices_insertionSortCmpFunc_huff_packet__b6e1_dee5.l2 K g1 a_2726 i2901 k) i2901 data2973 j2978 (decide (x2995 < (0 : Int))))
      (
      slices_insertionSortCmpFunc_huff_packet__b6e1_dee5.j3 K (g1) (slices_insertionSortCmpFunc_huff_packet__b6e1_dee5.l2 K g1 a_2726 i2901 k) i2901 data2973 j2978 false)

def slices_insertionSortCmpFunc_huff_packet__b6e1_dee5.l1 (K : Nat) (a_2726 : Int) (b_2727 : Int) : Nat → (List T_huff_packet) → Int → Res (List T_huff_packet)
  | 0, _, _ => .fail
  | k + 1, data2896, i2901 =>
    cond (decide (i2901 < b_2727))
      (
      slices_insertionSortCmpFunc_huff_packet__b6e1_dee5.l2 K (slices_insertionSortCmpFunc_huff_packet__b6e1_dee5.l1 K a_2726 b_2727 k) a_2726 i2901 K data2896 i2901)
      (
      .ok data2896)

def slices_insertionSortCmpFunc_huff_packet__b6e1_dee5.m (K : Nat) (data2718 : List T_huff_packet) (a_2726 : Int) (b_2727 : Int) : Res (List T_huff_packet) :=
  lt ((w64 (a_2726 + (1 : Int)))) fun (i2730 : Int) =>
  slices_insertionSortCmpFunc_huff_packet__b6e1_dee5.l1 K a_2726 b_2727 K data2718 i2730

def slices_swapRangeCmpFunc_huff_packet__b6e1_b35e.l1 (K : Nat) (a_3431 : Int) (b_3432 : Int) (n_3433 : Int) : Nat → (List T_huff_packet) → Int → Res (List T_huff_packet)
  | 0, _, _ => .fail
  | k + 1, data3486, i3491 =>
    cond (decide (i3491 < n_3433))
      (
      chk (inb (w64 (b_3432 + i3491)) data3486.length) <|
      chk (inb (w64 (a_3431 + i3491)) data3486.length) <|
      lt (data3486.set (Int.toNat (w64 (a_3431 + i3491))) (T_huff_packet.mk ((rd data3486 (w64 (b_3432 + i3491))).often_) ((rd data3486 (w64 (b_3432 + i3491))).symbols_))) fun (zs3515 : (List T_huff_packet)) =>
      chk (inb (w64 (b_3432 + i3491)) zs3515.length) <|
      lt (zs3515.set (Int.toNat (w64 (b_3432 + i3491))) (T_huff_packet.mk ((rd data3486 (w64 (a_3431 + i3491))).often_) ((rd data3486 (w64 (a_3431 + i3491))).symbols_))) fun (zs3528 : (List T_huff_packet)) =>
      lt ((w64 (i3491 + (1 : Int)))) fun (i3532 : Int) =>
      slices_swapRangeCmpFunc_huff_packet__b6e1_b35e.l1 K a_3431 b_3432 n_3433 k zs3528 i3532)
      (
      .ok data3486)

def slices_swapRangeCmpFunc_huff_packet__b6e1_b35e.m (K : Nat) (data3423 : List T_huff_packet) (a_3431 : Int) (b_3432 : Int) (n_3433 : Int) : Res (List T_huff_packet) :=
  slices_swapRangeCmpFunc_huff_packet__b6e1_b35e.l1 K a_3431 b_3432 n_3433 K data3423 (0 : Int)

def slices_rotateCmpFunc_huff_packet__b6e1_b35e.j2 (K : Nat) (m3412 : Int) (data3593 : (List T_huff_packet)) (i3598 : Int) : Res (List T_huff_packet) :=
  (slices_swapRangeCmpFunc_huff_packet__b6e1_b35e.m K data3593 (w64 (m3412 - i3598)) m3412 i3598).bind fun data3601 =>
  .ok data3601

def slices_rotateCmpFunc_huff_packet__b6e1_b35e.l1 (K : Nat) (m3412 : Int) : Nat → (List T_huff_packet) → Int → Int → Res (List T_huff_packet)
  | 0, _, _, _ => .fail
  | k + 1, data3565, i3570, j3571 =>
    cond (i3570 != j3571)
      (
      cond (decide (i3570 > j3571))
        (
        (slices_swapRangeCmpFunc_huff_packet__b6e1_b35e.m K data3565 (w64 (m3412 - i3570)) m3412 j3571).bind fun data3576 =>
        lt ((w64 (i3570 - j3571))) fun (i3582 : Int) =>
        slices_rotateCmpFunc_huff_packet__b6e1_b35e.l1 K m3412 k data3576 i3582 j3571)
        (
        (slices_swapRangeCmpFunc_huff_packet__b6e1_b35e.m K data3565 (w64 (m3412 - i3570)) (w64 ((w64 (m3412 + j3571)) - i3570)) i3570).bind fun data3584 =>
        lt ((w64 (j3571 - i3570))) fun (j3590 : Int) =>
        slices_rotateCmpFunc_huff_packet__b6e1_b35e.l1 K m3412 k data3584 i3570 j3590))
      (
      slices_rotateCmpFunc_huff_packet__b6e1_b35e.j2 K m3412 data3565 i3570)

def slices_rotateCmpFunc_huff_packet__b6e1_b35e.m (K : Nat) (data3403 : List T_huff_packet) (a_3411 : Int) (m3412 : Int) (b_3413 : Int) : Res (List T_huff_packet) :=
  lt ((w64 (m3412 - a_3411))) fun (i3416 : Int) =>
  lt ((w64 (b_3413 - m3412))) fun (j3417 : Int) =>
  slices_rotateCmpFunc_huff_packet__b6e1_b35e.l1 K m3412 K data3403 i3416 j3417

def slices_symMergeCmpFunc_huff_packet__b6e1_b35e.l3 (K : Nat) (rc : (List T_huff_packet) → Int → Int → Int → Res (List T_huff_packet)) (i3672 : Int) : Nat → (List T_huff_packet) → Int → Res (List T_huff_packet)
  | 0, _, _ => .fail
  | k + 1, data3724, k_3729 =>
    cond (decide (k_3729 < (w64 (i3672 - (1 : Int)))))
      (
      chk (inb (w64 (k_3729 + (1 : Int))) data3724.length) <|
      chk (inb k_3729 data3724.length) <|
      lt (data3724.set (Int.toNat k_3729) (T_huff_packet.mk ((rd data3724 (w64 (k_3729 + (1 : Int)))).often_) ((rd data3724 (w64 (k_3729 + (1 : Int)))).symbols_))) fun (zs3753 : (List T_huff_packet)) =>
      chk (inb (w64 (k_3729 + (1 : Int))) zs3753.length) <|
      lt (zs3753.set (Int.toNat (w64 (k_3729 + (1 : Int)))) (T_huff_packet.mk ((rd data3724 k_3729).often_) ((rd data3724 k_3729).symbols_))) fun (zs3766 : (List T_huff_packet)) =>
      lt ((w64 (k_3729 + (1 : Int)))) fun (k_3770 : Int) =>
      slices_symMergeCmpFunc_huff_packet__b6e1_b35e.l3 K rc i3672 k zs3766 k_3770)
      (
      .ok data3724)

def slices_symMergeCmpFunc_huff_packet__b6e1_b35e.j2 (K : Nat) (rc : (List T_huff_packet) → Int → Int → Int → Res (List T_huff_packet)) (data3635 : List T_huff_packet) (a_3643 : Int) (i3672 : Int) : Res (List T_huff_packet) :=
  slices_symMergeCmpFunc_huff_packet__b6e1_b35e.l3 K rc i3672 K data3635 a_3643

def slices_symMergeCmpFunc_huff_packet__b6e1_b35e.l1 (K : Nat) (rc : (List T_huff_packet) → Int → Int → Int → Res (List T_huff_packet)) (data3635 : List T_huff_packet) (a_3643 : Int) : Nat → Int → Int → Res (List T_huff_packet)
  | 0, _, _ => .fail
  | k + 1, i3649, j3650 =>
    cond (decide (i3649 < j3650))
      (
      lt ((wr .i64 (ishr .u64 (wr .u64 (w64 (i3649 + j3650))) (1 : Int)))) fun (h3653 : Int) =>
      chk (inb h3653 data3635.length) <|
      chk (inb a_3643 data3635.length) <|
      (huff_merged_1.m K (T_huff_packet.mk ((rd data3635 h3653).often_) ((rd data3635 h3653).symbols_)) (T_huff_packet.mk ((rd data3635 a_3643).often_) ((rd data3635 a_3643).symbols_))).bind fun x3668 =>
      cond (decide (x3668 < (0 : Int)))
        (
        lt ((w64 (h3653 + (1 : Int)))) fun (i3670 : Int) =>
        slices_symMergeCmpFunc_huff_packet__b6e1_b35e.l1 K rc data3635 a_3643 k i3670 j3650)
        (
        slices_symMergeCmpFunc_huff_packet__b6e1_b35e.l1 K rc data3635 a_3643 k i3649 h3653))
      (
      slices_symMergeCmpFunc_huff_packet__b6e1_b35e.j2 K rc data3635 a_3643 i3649)

def slices_symMergeCmpFunc_huff_packet__b6e1_b35e.l7 (K : Nat) (rc : (List T_huff_packet) → Int → Int → Int → Res (List T_huff_packet)) (i3797 : Int) : Nat → (List T_huff_packet) → Int → Res (List T_huff_packet)
  | 0, _, _ => .fail
  | k + 1, data3849, k_3854 =>
    cond (decide (k_3854 > i3797))
      (
      chk (inb (w64 (k_3854 - (1 : Int))) data3849.length) <|
      chk (inb k_3854 data3849.length) <|
      lt (data3849.set (Int.toNat k_3854) (T_huff_packet.mk ((rd data3849 (w64 (k_3854 - (1 : Int)))).often_) ((rd data3849 (w64 (k_3854 - (1 : Int)))).symbols_))) fun (zs3878 : (List T_huff_packet)) =>
      chk (inb (w64 (k_3854 - (1 : Int))) zs3878.length) <|
      lt (zs3878.set (Int.toNat (w64 (k_3854 - (1 : Int)))) (T_huff_packet.mk ((rd data3849 k_3854).often_) ((rd data3849 k_3854).symbols_))) fun (zs3891 : (List T_huff_packet)) =>
      lt ((w64 (k_3854 - (1 : Int)))) fun (k_3895 : Int) =>
      slices_symMergeCmpFunc_huff_packet__b6e1_b35e.l7 K rc i3797 k zs3891 k_3895)
      (
      .ok data3849)

def slices_symMergeCmpFunc_huff_packet__b6e1_b35e.j6 (K : Nat) (rc : (List T_huff_packet) → Int → Int → Int → Res (List T_huff_packet)) (data3635 : List T_huff_packet) (m3644 : Int) (i3797 : Int) : Res (List T_huff_packet) :=
  slices_symMergeCmpFunc_huff_packet__b6e1_b35e.l7 K rc i3797 K data3635 m3644

def slices_symMergeCmpFunc_huff_packet__b6e1_b35e.l5 (K : Nat) (rc : (List T_huff_packet) → Int → Int → Int → Res (List T_huff_packet)) (data3635 : List T_huff_packet) (m3644 : Int) : Nat → Int → Int → Res (List T_huff_packet)
  | 0, _, _ => .fail
  | k + 1, i3774, j3775 =>
    cond (decide (i3774 < j3775))
      (
      lt ((wr .i64 (ishr .u64 (wr .u64 (w64 (i3774 + j3775))) (1 : Int)))) fun (h3778 : Int) =>
      chk (inb m3644 data3635.length) <|
      chk (inb h3778 data3635.length) <|
      (huff_merged_1.m K (T_huff_packet.mk ((rd data3635 m3644).often_) ((rd data3635 m3644).symbols_)) (T_huff_packet.mk ((rd data3635 h3778).often_) ((rd data3635 h3778).symbols_))).bind fun x3793 =>
      cond (!(decide (x3793 < (0 : Int))))
        (
        lt ((w64 (h3778 + (1 : Int)))) fun (i3795 : Int) =>
        slices_symMergeCmpFunc_huff_packet__b6e1_b35e.l5 K rc data3635 m3644 k i3795 j3775)
        (
        slices_symMergeCmpFunc_huff_packet__b6e1_b35e.l5 K rc data3635 m3644 k i3774 h3778))
      (
      slices_symMergeCmpFunc_huff_packet__b6e1_b35e.j6 K rc data3635 m3644 i3774)

def slices_symMergeCmpFunc_huff_packet__b6e1_b35e.j13 (K : Nat) (rc : (List T_huff_packet) → Int → Int → Int → Res (List T_huff_packet)) (b_3645 : Int) (mid3898 : Int) (end_3931 : Int) (data3956 : (List T_huff_packet)) : Res (List T_huff_packet) :=
  cond ((decide (mid3898 < end_3931)) && (decide (end_3931 < b_3645)))
    (
    (rc data3956 mid3898 end_3931 b_3645).bind fun data3964 =>
    .ok data3964)
    (
    .ok data3956)

def slices_symMergeCmpFunc_huff_packet__b6e1_b35e.j12 (K : Nat) (rc : (List T_huff_packet) → Int → Int → Int → Res (List T_huff_packet)) (a_3643 : Int) (b_3645 : Int) (mid3898 : Int) (start3929 : Int) (end_3931 : Int) (data3941 : (List T_huff_packet)) : Res (List T_huff_packet) :=
  cond ((decide (a_3643 < start3929)) && (decide (start3929 < mid3898)))
    (
    (rc data3941 a_3643 start3929 mid3898).bind fun data3949 =>
    slices_symMergeCmpFunc_huff_packet__b6e1_b35e.j13 K rc b_3645 mid3898 end_3931 data3949)
    (
    slices_symMergeCmpFunc_huff_packet__b6e1_b35e.j13 K rc b_3645 mid3898 end_3931 data3941)

def slices_symMergeCmpFunc_huff_packet__b6e1_b35e.j11 (K : Nat) (rc : (List T_huff_packet) → Int → Int → Int → Res (List T_huff_packet)) (data3635 : List T_huff_packet) (a_3643 : Int) (m3644 : Int) (b_3645 : Int) (mid3898 : Int) (n_3899 : Int) (start3929 : Int) : Res (List T_huff_packet) :=
  lt ((w64 (n_3899 - start3929))) fun (end_3931 : Int) =>
  cond ((decide (start3929 < m3644)) && (decide (m3644 < end_3931)))
    (
    (slices_rotateCmpFunc_huff_packet__b6e1_b35e.m K data3635 start3929 m3644 end_3931).bind fun data3934 =>
    slices_symMergeCmpFunc_huff_packet__b6e1_b35e.j12 K rc a_3643 b_3645 mid3898 start3929 end_3931 data3934)
    (
    slices_symMergeCmpFunc_huff_packet__b6e1_b35e.j12 K rc a_3643 b_3645 mid3898 start3929 end_3931 data3635)

def slices_symMergeCmpFunc_huff_packet__b6e1_b35e.l10 (K : Nat) (rc : (List T_huff_packet) → Int → Int → Int → Res (List T_huff_packet)) (data3635 : List T_huff_packet) (a_3643 : Int) (m3644 : Int) (b_3645 : Int) (mid3898 : Int) (n_3899 : Int) (p3905 : Int) : Nat → Int → Int → Res (List T_huff_packet)
  | 0, _, _ => .fail
  | k + 1, start3906, r3907 =>
    cond (decide (start3906 < r3907))
      (
      lt ((wr .i64 (ishr .u64 (wr .u64 (w64 (start3906 + r3907))) (1 : Int)))) fun (c_3910 : Int) =>
      chk (inb (w64 (p3905 - c_3910)) data3635.length) <|
      chk (inb c_3910 data3635.length) <|
      (huff_merged_1.m K (T_huff_packet.mk ((rd data3635 (w64 (p3905 - c_3910))).often_) ((rd data3635 (w64 (p3905 - c_3910))).symbols_)) (T_huff_packet.mk ((rd data3635 c_3910).often_) ((rd data3635 c_3910).symbols_))).bind fun x3925 =>
      cond (!(decide (x3925 < (0 : Int))))
        (
        lt ((w64 (c_3910 + (1 : Int)))) fun (start3927 : Int) =>
        slices_symMergeCmpFunc_huff_packet__b6e1_b35e.l10 K rc data3635 a_3643 m3644 b_3645 mid3898 n_3899 p3905 k start3927 r3907)
        (
        slices_symMergeCmpFunc_huff_packet__b6e1_b35e.l10 K rc data3635 a_3643 m3644 b_3645 mid3898 n_3899 p3905 k start3906 c_3910))
      (
      slices_symMergeCmpFunc_huff_packet__b6e1_b35e.j11 K rc data3635 a_3643 m3644 b_3645 mid3898 n_3899 start3906)

def slices_symMergeCmpFunc_huff_packet__b6e1_b35e.j9 (K : Nat) (rc : (List T_huff_packet) → Int → Int → Int → Res (List T_huff_packet)) (data3635 : List T_huff_packet) (a_3643 : Int) (m3644 : Int) (b_3645 : Int) (mid3898 : Int) (n_3899 : Int) (start3902 : Int) (r3903 : Int) : Res (List T_huff_packet) :=
  lt ((w64 (n_3899 - (1 : Int)))) fun (p3905 : Int) =>
  slices_symMergeCmpFunc_huff_packet__b6e1_b35e.l10 K rc data3635 a_3643 m3644 b_3645 mid3898 n_3899 p3905 K start3902 r3903

def slices_symMergeCmpFunc_huff_packet__b6e1_b35e.j8 (K : Nat) (rc : (List T_huff_packet) → Int → Int → Int → Res (List T_huff_packet)) (data3635 : List T_huff_packet) (a_3643 : Int) (m3644 : Int) (b_3645 : Int) : Res (List T_huff_packet) :=
  lt ((wr .i64 (ishr .u64 (wr .u64 (w64 (a_3643 + b_3645))) (1 : Int)))) fun (mid3898 : Int) =>
  lt ((w64 (mid3898 + m3644))) fun (n_3899 : Int) =>
  cond (decide (m3644 > mid3898))
    (
    lt ((w64 (n_3899 - b_3645))) fun (start3901 : Int) =>
    slices_symMergeCmpFunc_huff_packet__b6e1_b35e.j9 K rc data3635 a_3643 m3644 b_3645 mid3898 n_3899 start3901 mid3898)
    (
    slices_symMergeCmpFunc_huff_packet__b6e1_b35e.j9 K rc data3635 a_3643 m3644 b_3645 mid3898 n_3899 a_3643 m3644)

def slices_symMergeCmpFunc_huff_packet__b6e1_b35e.j4 (K : Nat) (rc : (List T_huff_packet) → Int → Int → Int → Res (List T_huff_packet)) (data3635 : List T_huff_packet) (a_3643 : Int) (m3644 : Int) (b_3645 : Int) : Res (List T_huff_packet) :=
  cond ((w64 (b_3645 - m3644)) == (1 : Int))
    (
    slices_symMergeCmpFunc_huff_packet__b6e1_b35e.l5 K rc data3635 m3644 K a_3643 m3644)
    (
    slices_symMergeCmpFunc_huff_packet__b6e1_b35e.j8 K rc data3635 a_3643 m3644 b_3645)

def slices_symMergeCmpFunc_huff_packet__b6e1_b35e.b (K : Nat) (rc : (List T_huff_packet) → Int → Int → Int → Res (List T_huff_packet)) (data3635 : List T_huff_packet) (a_3643 : Int) (m3644 : Int) (b_3645 : Int) : Res (List T_huff_packet) :=
  cond ((w64 (m3644 - a_3643)) == (1 : Int))
    (
    slices_symMergeCmpFunc_huff_packet__b6e1_b35e.l1 K rc data3635 a_3643 K m3644 b_3645)
    (
    slices_symMergeCmpFunc_huff_packet__b6e1_b35e.j4 K rc data3635 a_3643 m3644 b_3645)

def slices_symMergeCmpFunc_huff_packet__b6e1_b35e.r (K : Nat) : Nat → (List T_huff_packet) → Int → Int → Int → Res (List T_huff_packet)
  | 0 => fun _ _ _ _ => .fail
  | d + 1 => slices_symMergeCmpFunc_huff_packet__b6e1_b35e.b K (slices_symMergeCmpFunc_huff_packet__b6e1_b35e.r K d)

def slices_symMergeCmpFunc_huff_packet__b6e1_b35e.m (K : Nat) (data3635 : List T_huff_packet) (a_3643 : Int) (m3644 : Int) (b_3645 : Int) : Res (List T_huff_packet) := slices_symMergeCmpFunc_huff_packet__b6e1_b35e.r K K data3635 a_3643 m3644 b_3645

def slices_stableCmpFunc_huff_packet__b6e1_c92d.j5 (K : Nat) (g3 : (List T_huff_packet) → Int → Res (List T_huff_packet)) (n_2711 : Int) (blockSize4043 : Int) (data4087 : (List T_huff_packet)) (a_4092 : Int) : Res (List T_huff_packet) :=
  lt ((w64 (a_4092 + blockSize4043))) fun (m4094 : Int) =>
  cond (decide (m4094 < n_2711))
    (
    (slices_symMergeCmpFunc_huff_packet__b6e1_b35e.m K data4087 a_4092 m4094 n_2711).bind fun data4097 =>
    lt ((w64 (blockSize4043 * (2 : Int)))) fun (blockSize4103 : Int) =>
    g3 data4097 blockSize4103)
    (
    lt ((w64 (blockSize4043 * (2 : Int)))) fun (blockSize4104 : Int) =>
    g3 data4087 blockSize4104)

def slices_stableCmpFunc_huff_packet__b6e1_c92d.l4 (K : Nat) (g3 : (List T_huff_packet) → Int → Res (List T_huff_packet)) (n_2711 : Int) (blockSize4043 : Int) : Nat → (List T_huff_packet) → Int → Int → Res (List T_huff_packet)
  | 0, _, _, _ => .fail
  | k + 1, data4068, a_4073, b_4074 =>
    cond (decide (b_4074 ≤ n_2711))
      (
      (slices_symMergeCmpFunc_huff_packet__b6e1_b35e.m K data4068 a_4073 (w64 (a_4073 + blockSize4043)) b_4074).bind fun data4078 =>
      lt ((w64 (b_4074 + (w64 ((2 : Int) * blockSize4043))))) fun (b_4084 : Int) =>
      slices_stableCmpFunc_huff_packet__b6e1_c92d.l4 K g3 n_2711 blockSize4043 k data4078 b_4074 b_4084)
      (
      slices_stableCmpFunc_huff_packet__b6e1_c92d.j5 K (g3) n_2711 blockSize4043 data4068 a_4073)

def slices_stableCmpFunc_huff_packet__b6e1_c92d.l3 (K : Nat) (n_2711 : Int) : Nat → (List T_huff_packet) → Int → Res (List T_huff_packet)
  | 0, _, _ => .fail
  | k + 1, data4038, blockSize4043 =>
    cond (decide (blockSize4043 < n_2711))
      (
      lt ((w64 ((2 : Int) * blockSize4043))) fun (b_4046 : Int) =>
      slices_stableCmpFunc_huff_packet__b6e1_c92d.l4 K (slices_stableCmpFunc_huff_packet__b6e1_c92d.l3 K n_2711 k) n_2711 blockSize4043 K data4038 (0 : Int) b_4046)
      (
      .ok data4038)

def slices_stableCmpFunc_huff_packet__b6e1_c92d.j2 (K : Nat) (n_2711 : Int) (data3083 : (List T_huff_packet)) (a_3088 : Int) : Res (List T_huff_packet) :=
  (slices_insertionSortCmpFunc_huff_packet__b6e1_dee5.m K data3083 a_3088 n_2711).bind fun data3091 =>
  slices_stableCmpFunc_huff_packet__b6e1_c92d.l3 K n_2711 K data3091 (20 : Int)

def slices_stableCmpFunc_huff_packet__b6e1_c92d.l1 (K : Nat) (n_2711 : Int) : Nat → (List T_huff_packet) → Int → Int → Res (List T_huff_packet)
  | 0, _, _, _ => .fail
  | k + 1, data3064, a_3069, b_3070 =>
    cond (decide (b_3070 ≤ n_2711))
      (
      (slices_insertionSortCmpFunc_huff_packet__b6e1_dee5.m K data3064 a_3069 b_3070).bind fun data3074 =>
      lt ((w64 (b_3070 + (20 : Int)))) fun (b_3080 : Int) =>
      slices_stableCmpFunc_huff_packet__b6e1_c92d.l1 K n_2711 k data3074 b_3070 b_3080)
      (
      slices_stableCmpFunc_huff_packet__b6e1_c92d.j2 K n_2711 data3064 a_3069)

def slices_stableCmpFunc_huff_packet__b6e1_c92d.m (K : Nat) (data2703 : List T_huff_packet) (n_2711 : Int) : Res (List T_huff_packet) :=
  slices_stableCmpFunc_huff_packet__b6e1_c92d.l1 K n_2711 K data2703 (0 : Int) (20 : Int)

def slices_SortStableFunc___huff_packet_huff_packet__b6e1_f734.m (K : Nat) (x2693 : List T_huff_packet) : Res (List T_huff_packet) :=
  (slices_stableCmpFunc_huff_packet__b6e1_c92d.m K x2693 (x2693.length : Int)).bind fun data4113 =>
  .ok data4113

def huff_merged.m (K : Nat) (a_2528 : List T_huff_packet) (b_2536 : List T_huff_packet) : Res (List T_huff_packet) :=
  (slices_Concat___huff_packet_huff_packet_.m K ([a_2528, b_2536] : List (List T_huff_packet))).bind fun x2688 =>
  (slices_SortStableFunc___huff_packet_huff_packet__b6e1_f734.m K x2688).bind fun x4126 =>
  .ok x4126

def huff_Lengths.l8 (K : Nat) (g7 : (List Int) → Int → Res ((List Int) × Int)) (zs4252 : (List T_huff_packet)) (v4309 : Int) : Nat → (List Int) → Int → Res ((List Int) × Int)
  | 0, _, _ => .fail
  | k + 1, out4339, v4342 =>
    cond (decide (v4342 < (((rd zs4252 v4309).symbols_).length : Int)))
      (
      chk (inb v4342 ((rd zs4252 v4309).symbols_).length) <|
      lt ((rd ((rd zs4252 v4309).symbols_) v4342)) fun (s4346 : Int) =>
      chk (inb s4346 out4339.length) <|
      lt (out4339.set (Int.toNat s4346) (w64 ((rd out4339 s4346) + (1 : Int)))) fun (zs4350 : (List Int)) =>
      huff_Lengths.l8 K g7 zs4252 v4309 k zs4350 (w64 (v4342 + (1 : Int))))
      (
      g7 out4339 (w64 (v4309 + (1 : Int))))

def huff_Lengths.l7 (K : Nat) (zs4252 : (List T_huff_packet)) : Nat → (List Int) → Int → Res ((List Int) × Int)
  | 0, _, _ => .fail
  | k + 1, out4306, v4309 =>
    cond (decide (v4309 < (zs4252.length : Int)))
      (
      chk (inb v4309 zs4252.length) <|
      huff_Lengths.l8 K (huff_Lengths.l7 K zs4252 k) zs4252 v4309 K out4306 (0 : Int))
      (
      .ok (out4306, (0 : Int)))

def huff_Lengths.j6 (K : Nat) (out778 : (List Int)) (x2229 : (List T_huff_packet)) (row4245 : (List T_huff_packet)) : Res ((List Int) × Int) :=
  chk (subok (0 : Int) (w64 ((w64 ((2 : Int) * (x2229.length : Int))) - (2 : Int))) row4245.length) <|
  lt (sub row4245 (0 : Int) (w64 ((w64 ((2 : Int) * (x2229.length : Int))) - (2 : Int)))) fun (zs4252 : (List T_huff_packet)) =>
  huff_Lengths.l7 K zs4252 K out778 (0 : Int)

def huff_Lengths.l5 (K : Nat) (most632 : Int) (out778 : (List Int)) (x2229 : (List T_huff_packet)) : Nat → (List T_huff_packet) → Int → Res ((List Int) × Int)
  | 0, _, _ => .fail
  | k + 1, row4192, v4196 =>
    cond (decide (v4196 < (w64 (most632 - (1 : Int)))))
      (
      (huff_pairs.m K row4192).bind fun x4203 =>
      (huff_merged.m K x2229 x4203).bind fun x4217 =>
      huff_Lengths.l5 K most632 out778 x2229 k x4217 (w64 (v4196 + (1 : Int))))
      (
      huff_Lengths.j6 K out778 x2229 row4192)

def huff_Lengths.j4 (K : Nat) (most632 : Int) (single750 : (List T_huff_packet)) (out778 : (List Int)) : Res ((List Int) × Int) :=
  cond (decide ((single750.length : Int) < (2 : Int)))
    (
    .ok (out778, (0 : Int)))
    (
    (slices_SortStableFunc___huff_packet_huff_packet__b6e1_f289.m K single750).bind fun x2229 =>
    huff_Lengths.l5 K most632 out778 x2229 K x2229 (0 : Int))

def huff_Lengths.j3 (K : Nat) (often627 : List Int) (most632 : Int) (single750 : (List T_huff_packet)) : Res ((List Int) × Int) :=
  chk (decide (0 ≤ most632)) <|
  cond (decide ((single750.length : Int) > (ishl .i64 (1 : Int) most632)))
    (
    .ok (([] : List Int), (1 : Int)))
    (
    chk (decide (0 ≤ (often627.length : Int)) && room (Int.toNat (often627.length : Int)) 8) <|
    lt (List.replicate (Int.toNat (often627.length : Int)) (0 : Int)) fun (zs764 : (List Int)) =>
    cond ((single750.length : Int) == (1 : Int))
      (
      chk (inb (0 : Int) single750.length) <|
      chk (inb (0 : Int) ((rd single750 (0 : Int)).symbols_).length) <|
      chk (inb (rd ((rd single750 (0 : Int)).symbols_) (0 : Int)) zs764.length) <|
      lt (zs764.set (Int.toNat (rd ((rd single750 (0 : Int)).symbols_) (0 : Int))) (1 : Int)) fun (zs776 : (List Int)) =>
      huff_Lengths.j4 K most632 single750 zs776)
      (
      huff_Lengths.j4 K most632 single750 zs764))

def huff_Lengths.l2 (K : Nat) (often627 : List Int) (most632 : Int) : Nat → (List T_huff_packet) → Int → Res ((List Int) × Int)
  | 0, _, _ => .fail
  | k + 1, single712, v716 =>
    cond (decide (v716 < (often627.length : Int)))
      (
      chk (inb v716 often627.length) <|
      lt ((rd often627 v716)) fun (n_720 : Int) =>
      cond (decide (n_720 > (0 : Int)))
        (
        chk (room (single712.length + ([(T_huff_packet.mk n_720 ([v716] : List Int))] : List T_huff_packet).length) 32) <|
        lt (single712 ++ ([(T_huff_packet.mk n_720 ([v716] : List Int))] : List T_huff_packet)) fun (zs743 : (List T_huff_packet)) =>
        huff_Lengths.l2 K often627 most632 k zs743 (w64 (v716 + (1 : Int))))
        (
        huff_Lengths.l2 K often627 most632 k single712 (w64 (v716 + (1 : Int)))))
      (
      huff_Lengths.j3 K often627 most632 single712)

def huff_Lengths.j1 (K : Nat) (often627 : List Int) (most632 : Int) (v661 : Bool) : Res ((List Int) × Int) :=
  cond v661
    (
    .ok (([] : List Int), (1 : Int)))
    (
    huff_Lengths.l2 K often627 most632 K ([] : List T_huff_packet) (0 : Int))

def huff_Lengths.m (K : Nat) (often627 : List Int) (most632 : Int) : Res ((List Int) × Int) :=
  cond (((decide (most632 < (1 : Int))) || (decide (most632 > (15 : Int)))) || (decide ((often627.length : Int) > (320 : Int))))
    (
    huff_Lengths.j1 K often627 most632 true)
    (
    (slices_ContainsFunc___int_int__5d67.m K often627).bind fun x660 =>
    huff_Lengths.j1 K often627 most632 x660)

def bits_New.m (K : Nat) (s4366 : List UInt8) : Res Unit :=
  .ok ()

def bits_Reader_Bits.j2 (K : Nat) (r4412 : T_bits_Reader) (n_4416 : Int) (v4432 : Int) : Res (Int × Int × Int) :=
  chk (decide (0 ≤ (iand .i64 r4412.place_.at_ (7 : Int)))) <|
  lt ((ishr .u64 v4432 (iand .i64 r4412.place_.at_ (7 : Int)))) fun (v4435 : Int) =>
  chk (decide (0 ≤ n_4416)) <|
  lt ((wr .u32 (iand .u64 v4435 (wr .u64 ((ishl .u64 (1 : Int) n_4416) - (1 : Int)))))) fun (v4439 : Int) =>
  .ok (v4439, (0 : Int), (w64 (r4412.place_.at_ + n_4416)))

def bits_Reader_Bits.l1 (K : Nat) (r4412 : T_bits_Reader) (n_4416 : Int) (first4422 : Int) : Nat → Int → Int → Res (Int × Int × Int)
  | 0, _, _ => .fail
  | k + 1, v4423, i4424 =>
    cond (decide ((w64 ((8 : Int) * (w64 (first4422 + i4424)))) < (w64 (r4412.place_.at_ + n_4416))))
      (
      chk (inb (w64 (first4422 + i4424)) r4412.text_.length) <|
      chk (decide (0 ≤ (w64 ((8 : Int) * i4424)))) <|
      lt ((ior .u64 v4423 (ishl .u64 (wr .u64 ((rd r4412.text_ (w64 (first4422 + i4424))).toNat : Int)) (w64 ((8 : Int) * i4424))))) fun (v4429 : Int) =>
      lt ((w64 (i4424 + (1 : Int)))) fun (i4430 : Int) =>
      bits_Reader_Bits.l1 K r4412 n_4416 first4422 k v4429 i4430)
      (
      bits_Reader_Bits.j2 K r4412 n_4416 v4423)

def bits_Reader_Bits.m (K : Nat) (r4412 : T_bits_Reader) (n_4416 : Int) : Res (Int × Int × Int) :=
  lt (((decide (n_4416 < (0 : Int))) || (decide (n_4416 > (32 : Int))))) fun (v4417 : Bool) =>
  cond v4417
    (
    .ok ((0 : Int), (1 : Int), r4412.place_.at_))
    (
    lt ((decide (n_4416 > (w64 ((w64 ((8 : Int) * (r4412.text_.length : Int))) - r4412.place_.at_))))) fun (v4419 : Bool) =>
    cond v4419
      (
      .ok ((0 : Int), (2 : Int), r4412.place_.at_))
      (
      lt ((iquo .i64 r4412.place_.at_ (8 : Int))) fun (first4422 : Int) =>
      bits_Reader_Bits.l1 K r4412 n_4416 first4422 K (0 : Int) (0 : Int)))

def huff_Table_Next.j2 (K : Nat) (r4397 : T_bits_Reader) (at_4498 : Int) : Res (Int × Int × Int) :=
  .ok ((0 : Int), (3 : Int), r4397.place_.at_)

def huff_Table_Next.l1 (K : Nat) (t4388 : T_huff_Table) (r4397 : T_bits_Reader) : Nat → Int → Int → Int → Int → Int → Res (Int × Int × Int)
  | 0, _, _, _, _, _ => .fail
  | k + 1, at_4470, code4473, first4474, passed4475, n_4476 =>
    cond (decide (passed4475 < (t4388.symbols_.length : Int)))
      (
      (bits_Reader_Bits.m K (T_bits_Reader.mk (T_bits_place.mk at_4470) r4397.text_) (1 : Int)).bind fun (x4479, x4480, at_4481) =>
      cond (x4480 != (0 : Int))
        (
        .ok ((0 : Int), x4480, r4397.place_.at_))
        (
        lt ((ior .i64 (ishl .i64 code4473 (1 : Int)) (wr .i64 x4479))) fun (code4487 : Int) =>
        lt ((ishl .i64 first4474 (1 : Int))) fun (first4488 : Int) =>
        chk (inb n_4476 16) <|
        lt ((rd t4388.counts_ n_4476)) fun (k_4490 : Int) =>
        cond (decide ((w64 (code4487 - first4488)) < k_4490))
          (
          chk (inb (w64 ((w64 (passed4475 + code4487)) - first4488)) t4388.symbols_.length) <|
          lt ((rd t4388.symbols_ (w64 ((w64 (passed4475 + code4487)) - first4488)))) fun (v4493 : Int) =>
          .ok (v4493, (0 : Int), at_4481))
          (
          lt ((w64 (first4488 + k_4490))) fun (first4494 : Int) =>
          lt ((w64 (passed4475 + k_4490))) fun (passed4495 : Int) =>
          lt ((w64 (n_4476 + (1 : Int)))) fun (n_4496 : Int) =>
          huff_Table_Next.l1 K t4388 r4397 k at_4481 code4487 first4494 passed4495 n_4496)))
      (
      huff_Table_Next.j2 K r4397 at_4470)

def huff_Table_Next.m (K : Nat) (t4388 : T_huff_Table) (r4397 : T_bits_Reader) : Res (Int × Int × Int) :=
  huff_Table_Next.l1 K t4388 r4397 K r4397.place_.at_ (0 : Int) (0 : Int) (0 : Int) (1 : Int)

def bits_Reader_At.m (K : Nat) (r4539 : T_bits_Reader) : Res Unit :=
  .ok ()

def mortiselaw06_live.j2 (K : Nat)  (v4543 : Bool) : Res Bool :=
  .ok v4543

def mortiselaw06_live.j1 (K : Nat) (x4509 : Int) (x4510 : Int) (x4514 : Int) (x4515 : Int) (at_4516 : Int) (v4536 : Bool) : Res Bool :=
  cond ((((v4536 && (x4509 == (0 : Int))) && (x4510 == (0 : Int))) && (x4514 == (0 : Int))) && (x4515 == (0 : Int)))
    (
    (bits_Reader_At.m K (T_bits_Reader.mk (T_bits_place.mk at_4516) ([5] : List UInt8))).bind fun _ =>
    mortiselaw06_live.j2 K (at_4516 == (4 : Int)))
    (
    mortiselaw06_live.j2 K false)

def mortiselaw06_live.m (K : Nat) : Res Bool :=
  (huff_Codes.m K ([(2 : Int), (1 : Int), (3 : Int), (3 : Int)] : List Int)).bind fun (x448, x450) =>
  (huff_New.m K ([(2 : Int), (1 : Int), (3 : Int), (3 : Int)] : List Int)).bind fun (x619, x621) =>
  (huff_Lengths.m K ([(1 : Int), (1 : Int), (2 : Int), (4 : Int)] : List Int) (15 : Int)).bind fun (x4362, x4364) =>
  (bits_New.m K ([5] : List UInt8)).bind fun _ =>
  cond (x619.isNone || false)
    (
    .ok false)
    (
    unw x619 fun x4377 =>
    (huff_Table_Next.m K x4377 (T_bits_Reader.mk (T_bits_place.mk (0 : Int)) ([5] : List UInt8))).bind fun (x4509, x4510, at_4511) =>
    (huff_Table_Next.m K x4377 (T_bits_Reader.mk (T_bits_place.mk at_4511) ([5] : List UInt8))).bind fun (x4514, x4515, at_4516) =>
    (mortiseref06_SameInts.m K x448 ([(2 : Int), (0 : Int), (6 : Int), (7 : Int)] : List Int)).bind fun x4523 =>
    chk (imp true ((((x4523 && (x450 == (0 : Int))) && (x621 == (0 : Int))) && (x4364 == (0 : Int))) && ((x4362.length : Int) == (4 : Int))) (inb (3 : Int) x4362.length)) <|
    chk (imp true (((((x4523 && (x450 == (0 : Int))) && (x621 == (0 : Int))) && (x4364 == (0 : Int))) && ((x4362.length : Int) == (4 : Int))) && ((rd x4362 (3 : Int)) == (1 : Int))) (inb (2 : Int) x4362.length)) <|
    cond ((((((x4523 && (x450 == (0 : Int))) && (x621 == (0 : Int))) && (x4364 == (0 : Int))) && ((x4362.length : Int) == (4 : Int))) && ((rd x4362 (3 : Int)) == (1 : Int))) && ((rd x4362 (2 : Int)) == (2 : Int)))
      (
      (huff_Check.m K ([(1 : Int), (1 : Int), (1 : Int)] : List Int)).bind fun x4535 =>
      mortiselaw06_live.j1 K x4509 x4510 x4514 x4515 at_4516 (x4535 == (3 : Int)))
      (
      mortiselaw06_live.j1 K x4509 x4510 x4514 x4515 at_4516 false))

def mortiselaw06_HuffCodes.j4 (K : Nat)  (v4547 : Bool) : Res Bool :=
  .ok v4547

def mortiselaw06_HuffCodes.j3 (K : Nat)  (v439 : Bool) : Res Bool :=
  cond v439
    (
    (mortiselaw06_live.m K).bind fun x4546 =>
    mortiselaw06_HuffCodes.j4 K x4546)
    (
    mortiselaw06_HuffCodes.j4 K false)

def mortiselaw06_HuffCodes.j2 (K : Nat) (l_1 : List Int) (zs13 : (List Int)) (v435 : Bool) : Res Bool :=
  cond v435
    (
    (mortiseref06_SameInts.m K zs13 l_1).bind fun x438 =>
    mortiselaw06_HuffCodes.j3 K x438)
    (
    mortiselaw06_HuffCodes.j3 K false)

def mortiselaw06_HuffCodes.j1 (K : Nat) (l_1 : List Int) (zs13 : (List Int)) (v430 : Bool) : Res Bool :=
  cond v430
    (
    (huff_Check.m K zs13).bind fun x433 =>
    (mortiseref06_Check.m K l_1).bind fun x434 =>
    mortiselaw06_HuffCodes.j2 K l_1 zs13 (x433 == x434))
    (
    mortiselaw06_HuffCodes.j2 K l_1 zs13 false)

def mortiselaw06_HuffCodes.m (K : Nat) (l_1 : List Int) : Res Bool :=
  chk (room (([] : List Int).length + l_1.length) 8) <|
  lt (([] : List Int) ++ l_1) fun (zs13 : (List Int)) =>
  (huff_Codes.m K zs13).bind fun (x242, x244) =>
  (mortiseref06_Codes.m K l_1).bind fun (x402, x404) =>
  cond (x244 == x404)
    (
    (mortiseref06_SameInts.m K x242 x402).bind fun x429 =>
    mortiselaw06_HuffCodes.j1 K l_1 zs13 x429)
    (
    mortiselaw06_HuffCodes.j1 K l_1 zs13 false)

def huff_Table_Next_adda.j2 (K : Nat) (r4621 : T_bits_Reader) (x4626 : T_huff_Table) (at_4701 : Int) : Res (Int × Int × Int × (Option T_huff_Table)) :=
  .ok ((0 : Int), (3 : Int), r4621.place_.at_, (some x4626))

def huff_Table_Next_adda.l1 (K : Nat) (r4621 : T_bits_Reader) (x4626 : T_huff_Table) : Nat → Int → Int → Int → Int → Int → Res (Int × Int × Int × (Option T_huff_Table))
  | 0, _, _, _, _, _ => .fail
  | k + 1, at_4673, code4676, first4677, passed4678, n_4679 =>
    cond (decide (passed4678 < (x4626.symbols_.length : Int)))
      (
      (bits_Reader_Bits.m K (T_bits_Reader.mk (T_bits_place.mk at_4673) r4621.text_) (1 : Int)).bind fun (x4682, x4683, at_4684) =>
      cond (x4683 != (0 : Int))
        (
        .ok ((0 : Int), x4683, r4621.place_.at_, (some x4626)))
        (
        lt ((ior .i64 (ishl .i64 code4676 (1 : Int)) (wr .i64 x4682))) fun (code4690 : Int) =>
        lt ((ishl .i64 first4677 (1 : Int))) fun (first4691 : Int) =>
        chk (inb n_4679 16) <|
        lt ((rd x4626.counts_ n_4679)) fun (k_4693 : Int) =>
        cond (decide ((w64 (code4690 - first4691)) < k_4693))
          (
          chk (inb (w64 ((w64 (passed4678 + code4690)) - first4691)) x4626.symbols_.length) <|
          lt ((rd x4626.symbols_ (w64 ((w64 (passed4678 + code4690)) - first4691)))) fun (v4696 : Int) =>
          .ok (v4696, (0 : Int), at_4684, (some x4626)))
          (
          lt ((w64 (first4691 + k_4693))) fun (first4697 : Int) =>
          lt ((w64 (passed4678 + k_4693))) fun (passed4698 : Int) =>
          lt ((w64 (n_4679 + (1 : Int)))) fun (n_4699 : Int) =>
          huff_Table_Next_adda.l1 K r4621 x4626 k at_4684 code4690 first4697 passed4698 n_4699)))
      (
      huff_Table_Next_adda.j2 K r4621 x4626 at_4673)

def huff_Table_Next_adda.m (K : Nat) (t4617 : Option T_huff_Table) (r4621 : T_bits_Reader) : Res (Int × Int × Int × (Option T_huff_Table)) :=
  cond (t4617.isNone || false)
    (
    .ok ((0 : Int), (1 : Int), r4621.place_.at_, t4617))
    (
    unw t4617 fun x4626 =>
    huff_Table_Next_adda.l1 K r4621 x4626 K r4621.place_.at_ (0 : Int) (0 : Int) (0 : Int) (1 : Int))

def mortiseref05_Reader_Bits.j2 (K : Nat) (r4767 : T_mortiseref05_Reader) (n_4771 : Int) (v4786 : Int) : Res (Int × Int × Int) :=
  .ok (v4786, (0 : Int), (w64 (r4767.At_ + n_4771)))

def mortiseref05_Reader_Bits.l1 (K : Nat) (r4767 : T_mortiseref05_Reader) (n_4771 : Int) : Nat → Int → Int → Res (Int × Int × Int)
  | 0, _, _ => .fail
  | k + 1, v4774, i4775 =>
    cond (decide (i4775 < n_4771))
      (
      lt ((w64 (r4767.At_ + i4775))) fun (k_4778 : Int) =>
      chk (inb (iquo .i64 k_4778 (8 : Int)) r4767.S_.length) <|
      chk (decide (0 ≤ (wr .u64 (irem k_4778 (8 : Int))))) <|
      lt ((irem (ishr .u32 (wr .u32 ((rd r4767.S_ (iquo .i64 k_4778 (8 : Int))).toNat : Int)) (wr .u64 (irem k_4778 (8 : Int)))) (2 : Int))) fun (b_4781 : Int) =>
      chk (decide (0 ≤ (wr .u64 i4775))) <|
      lt ((wr .u32 (v4774 + (ishl .u32 b_4781 (wr .u64 i4775))))) fun (v4783 : Int) =>
      lt ((w64 (i4775 + (1 : Int)))) fun (i4784 : Int) =>
      mortiseref05_Reader_Bits.l1 K r4767 n_4771 k v4783 i4784)
      (
      mortiseref05_Reader_Bits.j2 K r4767 n_4771 v4774)

def mortiseref05_Reader_Bits.m (K : Nat) (r4767 : T_mortiseref05_Reader) (n_4771 : Int) : Res (Int × Int × Int) :=
  cond ((decide (n_4771 < (0 : Int))) || (decide (n_4771 > (32 : Int))))
    (
    .ok ((0 : Int), (1 : Int), r4767.At_))
    (
    cond (decide (n_4771 > (w64 ((w64 ((8 : Int) * (r4767.S_.length : Int))) - r4767.At_))))
      (
      .ok ((0 : Int), (2 : Int), r4767.At_))
      (
      mortiseref05_Reader_Bits.l1 K r4767 n_4771 K (0 : Int) (0 : Int)))

def mortiseref06_Next.j3 (K : Nat) (g1 : Int → Int → Int → Res (Int × Int × Int)) (r4733 : T_mortiseref05_Reader) (at_4810 : Int) (v4813 : Int) (length4814 : Int) (begins4838 : Bool) : Res (Int × Int × Int) :=
  cond (!begins4838)
    (
    .ok ((0 : Int), (3 : Int), r4733.At_))
    (
    (mortiseref05_Reader_Bits.m K (T_mortiseref05_Reader.mk r4733.S_ at_4810) (1 : Int)).bind fun (x4843, x4844, at_4845) =>
    cond (x4844 != (0 : Int))
      (
      .ok ((0 : Int), x4844, r4733.At_))
      (
      lt ((w64 ((w64 ((2 : Int) * v4813)) + (wr .i64 x4843)))) fun (v4851 : Int) =>
      lt ((w64 (length4814 + (1 : Int)))) fun (length4852 : Int) =>
      g1 at_4845 v4851 length4852))

def mortiseref06_Next.l2 (K : Nat) (g1 : Int → Int → Int → Res (Int × Int × Int)) (l_4723 : List Int) (codes4728 : List Int) (r4733 : T_mortiseref05_Reader) (at_4810 : Int) (v4813 : Int) (length4814 : Int) : Nat → Bool → Int → Res (Int × Int × Int)
  | 0, _, _ => .fail
  | k + 1, begins4817, i4818 =>
    cond (decide (i4818 < (l_4723.length : Int)))
      (
      chk (inb i4818 l_4723.length) <|
      chk (imp true (((rd l_4723 i4818) == length4814) && (decide (length4814 > (0 : Int)))) (inb i4818 codes4728.length)) <|
      cond ((((rd l_4723 i4818) == length4814) && (decide (length4814 > (0 : Int)))) && ((rd codes4728 i4818) == v4813))
        (
        .ok (i4818, (0 : Int), at_4810))
        (
        cond begins4817
          (
          lt ((w64 (i4818 + (1 : Int)))) fun (i4827 : Int) =>
          mortiseref06_Next.l2 K g1 l_4723 codes4728 r4733 at_4810 v4813 length4814 k true i4827)
          (
          cond (decide ((rd l_4723 i4818) > length4814))
            (
            chk (inb i4818 codes4728.length) <|
            chk (decide (0 ≤ (wr .u64 (w64 ((rd l_4723 i4818) - length4814))))) <|
            lt (((ishr .i64 (rd codes4728 i4818) (wr .u64 (w64 ((rd l_4723 i4818) - length4814)))) == v4813)) fun (begins4833 : Bool) =>
            lt ((w64 (i4818 + (1 : Int)))) fun (i4835 : Int) =>
            mortiseref06_Next.l2 K g1 l_4723 codes4728 r4733 at_4810 v4813 length4814 k begins4833 i4835)
            (
            lt ((w64 (i4818 + (1 : Int)))) fun (i4836 : Int) =>
            mortiseref06_Next.l2 K g1 l_4723 codes4728 r4733 at_4810 v4813 length4814 k false i4836))))
      (
      mortiseref06_Next.j3 K (g1) r4733 at_4810 v4813 length4814 begins4817)

def mortiseref06_Next.j4 (K : Nat) (r4733 : T_mortiseref05_Reader) (at_4854 : Int) : Res (Int × Int × Int) :=
  .ok ((0 : Int), (3 : Int), r4733.At_)

def mortiseref06_Next.l1 (K : Nat) (l_4723 : List Int) (codes4728 : List Int) (r4733 : T_mortiseref05_Reader) : Nat → Int → Int → Int → Res (Int × Int × Int)
  | 0, _, _, _ => .fail
  | k + 1, at_4810, v4813, length4814 =>
    cond (decide (length4814 ≤ (15 : Int)))
      (
      mortiseref06_Next.l2 K (mortiseref06_Next.l1 K l_4723 codes4728 r4733 k) l_4723 codes4728 r4733 at_4810 v4813 length4814 K false (0 : Int))
      (
      mortiseref06_Next.j4 K r4733 at_4810)

def mortiseref06_Next.m (K : Nat) (l_4723 : List Int) (codes4728 : List Int) (r4733 : T_mortiseref05_Reader) : Res (Int × Int × Int) :=
  mortiseref06_Next.l1 K l_4723 codes4728 r4733 K r4733.At_ (0 : Int) (0 : Int)

def mortiselaw06_HuffReads.j5 (K : Nat) (g4 : (Option T_huff_Table) → Int → Int → Int → Res Bool) (i4898 : Int) (at_4903 : Int) (t4905 : Option T_huff_Table) (x4910 : Int) (at_4911 : Int) (v4916 : Bool) : Res Bool :=
  cond v4916
    (
    .ok false)
    (
    cond (x4910 != (0 : Int))
      (
      .ok true)
      (
      lt ((w64 (i4898 + (1 : Int)))) fun (i4920 : Int) =>
      g4 t4905 at_4903 at_4911 i4920))

def mortiselaw06_HuffReads.l4 (K : Nat) (l_4550 : List Int) (s4555 : List UInt8) (x4571 : (List Int)) : Nat → (Option T_huff_Table) → Int → Int → Int → Res Bool
  | 0, _, _, _, _ => .fail
  | k + 1, t4889, at_4892, at_4895, i4898 =>
    cond (decide (i4898 < (200 : Int)))
      (
      (huff_Table_Next_adda.m K t4889 (T_bits_Reader.mk (T_bits_place.mk at_4892) s4555)).bind fun (x4901, x4902, at_4903, t4905) =>
      (mortiseref06_Next.m K l_4550 x4571 (T_mortiseref05_Reader.mk s4555 at_4895)).bind fun (x4909, x4910, at_4911) =>
      cond (x4901 != x4909)
        (
        mortiselaw06_HuffReads.j5 K (mortiselaw06_HuffReads.l4 K l_4550 s4555 x4571 k) i4898 at_4903 t4905 x4910 at_4911 true)
        (
        cond (x4902 != x4910)
          (
          mortiselaw06_HuffReads.j5 K (mortiselaw06_HuffReads.l4 K l_4550 s4555 x4571 k) i4898 at_4903 t4905 x4910 at_4911 true)
          (
          (bits_Reader_At.m K (T_bits_Reader.mk (T_bits_place.mk at_4903) s4555)).bind fun _ =>
          mortiselaw06_HuffReads.j5 K (mortiselaw06_HuffReads.l4 K l_4550 s4555 x4571 k) i4898 at_4903 t4905 x4910 at_4911 (at_4903 != at_4911))))
      (
      .ok true)

def mortiselaw06_HuffReads.j3 (K : Nat) (l_4550 : List Int) (s4555 : List UInt8) (x4565 : Option T_huff_Table) (x4571 : (List Int)) : Res Bool :=
  (bits_New.m K s4555).bind fun _ =>
  mortiselaw06_HuffReads.l4 K l_4550 s4555 x4571 K x4565 (0 : Int) (0 : Int) (0 : Int)

def mortiselaw06_HuffReads.l2 (K : Nat) (l_4550 : List Int) (s4555 : List UInt8) (x4565 : Option T_huff_Table) (x4571 : (List Int)) : Nat → (List Int) → Int → Res Bool
  | 0, _, _ => .fail
  | k + 1, own4594, i4597 =>
    cond (decide (i4597 < (own4594.length : Int)))
      (
      chk (inb i4597 own4594.length) <|
      lt (own4594.set (Int.toNat i4597) (3 : Int)) fun (zs4603 : (List Int)) =>
      lt ((w64 (i4597 + (1 : Int)))) fun (i4605 : Int) =>
      mortiselaw06_HuffReads.l2 K l_4550 s4555 x4565 x4571 k zs4603 i4605)
      (
      mortiselaw06_HuffReads.j3 K l_4550 s4555 x4565 x4571)

def mortiselaw06_HuffReads.j1 (K : Nat) (l_4550 : List Int) (s4555 : List UInt8) (zs4563 : (List Int)) (x4565 : Option T_huff_Table) (x4567 : Int) (x4571 : (List Int)) (v4577 : Bool) : Res Bool :=
  cond v4577
    (
    .ok false)
    (
    cond (x4567 != (0 : Int))
      (
      .ok true)
      (
      mortiselaw06_HuffReads.l2 K l_4550 s4555 x4565 x4571 K zs4563 (0 : Int)))

def mortiselaw06_HuffReads.m (K : Nat) (l_4550 : List Int) (s4555 : List UInt8) : Res Bool :=
  chk (room (([] : List Int).length + l_4550.length) 8) <|
  lt (([] : List Int) ++ l_4550) fun (zs4563 : (List Int)) =>
  (huff_New.m K zs4563).bind fun (x4565, x4567) =>
  (mortiseref06_Codes.m K l_4550).bind fun (x4571, x4573) =>
  cond ((x4567 != x4573) || (!(x4565.isSome == (x4567 == (0 : Int)))))
    (
    mortiselaw06_HuffReads.j1 K l_4550 s4555 zs4563 x4565 x4567 x4571 true)
    (
    (mortiselaw06_live.m K).bind fun x4576 =>
    mortiselaw06_HuffReads.j1 K l_4550 s4555 zs4563 x4565 x4567 x4571 (!x4576))

def mortiseref06_Often.j2 (K : Nat) (most4952 : Int) (n_4965 : Int) : Res Bool :=
  chk (decide (0 ≤ (wr .u64 most4952))) <|
  lt ((decide (n_4965 ≤ (ishl .i64 (1 : Int) (wr .u64 most4952))))) fun (v4968 : Bool) =>
  .ok v4968

def mortiseref06_Often.l1 (K : Nat) (often4947 : List Int) (most4952 : Int) : Nat → Int → Int → Res Bool
  | 0, _, _ => .fail
  | k + 1, n_4954, i4955 =>
    cond (decide (i4955 < (often4947.length : Int)))
      (
      chk (inb i4955 often4947.length) <|
      cond ((decide ((rd often4947 i4955) < (0 : Int))) || (decide ((rd often4947 i4955) > (1099511627776 : Int))))
        (
        .ok false)
        (
        cond (decide ((rd often4947 i4955) > (0 : Int)))
          (
          lt ((w64 (n_4954 + (1 : Int)))) fun (n_4961 : Int) =>
          lt ((w64 (i4955 + (1 : Int)))) fun (i4962 : Int) =>
          mortiseref06_Often.l1 K often4947 most4952 k n_4961 i4962)
          (
          lt ((w64 (i4955 + (1 : Int)))) fun (i4963 : Int) =>
          mortiseref06_Often.l1 K often4947 most4952 k n_4954 i4963)))
      (
      mortiseref06_Often.j2 K most4952 n_4954)

def mortiseref06_Often.m (K : Nat) (often4947 : List Int) (most4952 : Int) : Res Bool :=
  cond (((decide (most4952 < (1 : Int))) || (decide (most4952 > (15 : Int)))) || (decide ((often4947.length : Int) > (320 : Int))))
    (
    .ok false)
    (
    mortiseref06_Often.l1 K often4947 most4952 K (0 : Int) (0 : Int))

def mortiseref06_Least.j6 (K : Nat) (g5 : (List Int) → Int → Res Int) (often5006 : List Int) (best5212 : (List Int)) (i5215 : Int) (k_5301 : Int) (next5339 : (List Int)) (length5342 : Int) (part5347 : Int) (v5354 : Bool) : Res Int :=
  cond v5354
    (
    chk (inb (w64 (k_5301 - part5347)) best5212.length) <|
    chk (inb k_5301 next5339.length) <|
    lt (next5339.set (Int.toNat k_5301) (w64 ((rd best5212 (w64 (k_5301 - part5347))) + (w64 ((rd often5006 i5215) * length5342))))) fun (zs5363 : (List Int)) =>
    lt ((w64 (length5342 + (1 : Int)))) fun (length5365 : Int) =>
    g5 zs5363 length5365)
    (
    lt ((w64 (length5342 + (1 : Int)))) fun (length5366 : Int) =>
    g5 next5339 length5366)

def mortiseref06_Least.l5 (K : Nat) (g4 : (List Int) → Int → Res Int) (often5006 : List Int) (most5011 : Int) (best5212 : (List Int)) (i5215 : Int) (k_5301 : Int) : Nat → (List Int) → Int → Res Int
  | 0, _, _ => .fail
  | k + 1, next5339, length5342 =>
    cond (decide (length5342 ≤ most5011))
      (
      chk (decide (0 ≤ (wr .u64 (w64 (most5011 - length5342))))) <|
      lt ((ishl .i64 (1 : Int) (wr .u64 (w64 (most5011 - length5342))))) fun (part5347 : Int) =>
      cond (decide (part5347 ≤ k_5301))
        (
        chk (inb (w64 (k_5301 - part5347)) best5212.length) <|
        cond (decide ((rd best5212 (w64 (k_5301 - part5347))) < (4611686018427387904 : Int)))
          (
          chk (inb k_5301 next5339.length) <|
          mortiseref06_Least.j6 K (mortiseref06_Least.l5 K g4 often5006 most5011 best5212 i5215 k_5301 k) often5006 best5212 i5215 k_5301 next5339 length5342 part5347 (decide ((w64 ((rd best5212 (w64 (k_5301 - part5347))) + (w64 ((rd often5006 i5215) * length5342)))) < (rd next5339 k_5301))))
          (
          mortiseref06_Least.j6 K (mortiseref06_Least.l5 K g4 often5006 most5011 best5212 i5215 k_5301 k) often5006 best5212 i5215 k_5301 next5339 length5342 part5347 false))
        (
        mortiseref06_Least.j6 K (mortiseref06_Least.l5 K g4 often5006 most5011 best5212 i5215 k_5301 k) often5006 best5212 i5215 k_5301 next5339 length5342 part5347 false))
      (
      lt ((w64 (k_5301 + (1 : Int)))) fun (k_5345 : Int) =>
      g4 next5339 k_5345)

def mortiseref06_Least.l4 (K : Nat) (g3 : (List Int) → Int → Res Int) (often5006 : List Int) (most5011 : Int) (size5013 : Int) (best5212 : (List Int)) (i5215 : Int) : Nat → (List Int) → Int → Res Int
  | 0, _, _ => .fail
  | k + 1, next5298, k_5301 =>
    cond (decide (k_5301 ≤ size5013))
      (
      chk (inb k_5301 next5298.length) <|
      lt (next5298.set (Int.toNat k_5301) (4611686018427387904 : Int)) fun (zs5308 : (List Int)) =>
      mortiseref06_Least.l5 K (mortiseref06_Least.l4 K g3 often5006 most5011 size5013 best5212 i5215 k) often5006 most5011 best5212 i5215 k_5301 K zs5308 (1 : Int))
      (
      lt ((w64 (i5215 + (1 : Int)))) fun (i5304 : Int) =>
      g3 next5298 i5304)

def mortiseref06_Least.l8 (K : Nat) (size5013 : Int) (best5372 : (List Int)) : Nat → Int → Int → Res Int
  | 0, _, _ => .fail
  | k + 1, out5378, k_5379 =>
    cond (decide (k_5379 ≤ size5013))
      (
      chk (inb k_5379 best5372.length) <|
      lt ((if (rd best5372 k_5379) < out5378 then (rd best5372 k_5379) else out5378)) fun (out5383 : Int) =>
      lt ((w64 (k_5379 + (1 : Int)))) fun (k_5384 : Int) =>
      mortiseref06_Least.l8 K size5013 best5372 k out5383 k_5384)
      (
      .ok out5378)

def mortiseref06_Least.j7 (K : Nat) (size5013 : Int) (best5372 : (List Int)) : Res Int :=
  chk (inb (0 : Int) best5372.length) <|
  lt ((rd best5372 (0 : Int))) fun (out5377 : Int) =>
  mortiseref06_Least.l8 K size5013 best5372 K out5377 (1 : Int)

def mortiseref06_Least.l3 (K : Nat) (often5006 : List Int) (most5011 : Int) (size5013 : Int) : Nat → (List Int) → Int → Res Int
  | 0, _, _ => .fail
  | k + 1, best5212, i5215 =>
    cond (decide (i5215 < (often5006.length : Int)))
      (
      chk (inb i5215 often5006.length) <|
      cond ((rd often5006 i5215) == (0 : Int))
        (
        lt ((w64 (i5215 + (1 : Int)))) fun (i5220 : Int) =>
        mortiseref06_Least.l3 K often5006 most5011 size5013 k best5212 i5220)
        (
        chk (decide (0 ≤ (w64 (size5013 + (1 : Int)))) && room (Int.toNat (w64 (size5013 + (1 : Int)))) 8) <|
        lt (List.replicate (Int.toNat (w64 (size5013 + (1 : Int)))) (0 : Int)) fun (zs5226 : (List Int)) =>
        mortiseref06_Least.l4 K (mortiseref06_Least.l3 K often5006 most5011 size5013 k) often5006 most5011 size5013 best5212 i5215 K zs5226 (0 : Int)))
      (
      mortiseref06_Least.j7 K size5013 best5212)

def mortiseref06_Least.j2 (K : Nat) (often5006 : List Int) (most5011 : Int) (size5013 : Int) (best5046 : (List Int)) : Res Int :=
  mortiseref06_Least.l3 K often5006 most5011 size5013 K best5046 (0 : Int)

def mortiseref06_Least.l1 (K : Nat) (often5006 : List Int) (most5011 : Int) (size5013 : Int) : Nat → (List Int) → Int → Res Int
  | 0, _, _ => .fail
  | k + 1, best5033, k_5036 =>
    cond (decide (k_5036 ≤ size5013))
      (
      chk (inb k_5036 best5033.length) <|
      lt (best5033.set (Int.toNat k_5036) (4611686018427387904 : Int)) fun (zs5042 : (List Int)) =>
      lt ((w64 (k_5036 + (1 : Int)))) fun (k_5044 : Int) =>
      mortiseref06_Least.l1 K often5006 most5011 size5013 k zs5042 k_5044)
      (
      mortiseref06_Least.j2 K often5006 most5011 size5013 best5033)

def mortiseref06_Least.m (K : Nat) (often5006 : List Int) (most5011 : Int) : Res Int :=
  chk (decide (0 ≤ (wr .u64 most5011))) <|
  lt ((ishl .i64 (1 : Int) (wr .u64 most5011))) fun (size5013 : Int) =>
  chk (decide (0 ≤ (w64 (size5013 + (1 : Int)))) && room (Int.toNat (w64 (size5013 + (1 : Int)))) 8) <|
  lt (List.replicate (Int.toNat (w64 (size5013 + (1 : Int)))) (0 : Int)) fun (zs5019 : (List Int)) =>
  mortiseref06_Least.l1 K often5006 most5011 size5013 K zs5019 (1 : Int)

def mortiselaw06_HuffLeast.j2 (K : Nat)  (v4977 : Bool) : Res Bool :=
  .ok v4977

def mortiselaw06_HuffLeast.j5 (K : Nat) (g4 : Int → Int → Res Bool) (often4923 : List Int) (x4941 : (List Int)) (sum4984 : Int) (i4985 : Int) (v4993 : Bool) : Res Bool :=
  cond v4993
    (
    .ok false)
    (
    chk (inb i4985 x4941.length) <|
    chk (inb i4985 often4923.length) <|
    lt ((w64 (sum4984 + (w64 ((rd x4941 i4985) * (rd often4923 i4985)))))) fun (sum5000 : Int) =>
    lt ((w64 (i4985 + (1 : Int)))) fun (i5002 : Int) =>
    g4 sum5000 i5002)

def mortiselaw06_HuffLeast.j7 (K : Nat)  (v5390 : Bool) : Res Bool :=
  .ok v5390

def mortiselaw06_HuffLeast.j6 (K : Nat) (often4923 : List Int) (most4928 : Int) (sum5004 : Int) : Res Bool :=
  (mortiseref06_Least.m K often4923 most4928).bind fun x5387 =>
  cond (sum5004 == x5387)
    (
    (mortiselaw06_live.m K).bind fun x5389 =>
    mortiselaw06_HuffLeast.j7 K x5389)
    (
    mortiselaw06_HuffLeast.j7 K false)

def mortiselaw06_HuffLeast.l4 (K : Nat) (often4923 : List Int) (most4928 : Int) (x4941 : (List Int)) : Nat → Int → Int → Res Bool
  | 0, _, _ => .fail
  | k + 1, sum4984, i4985 =>
    cond (decide (i4985 < (x4941.length : Int)))
      (
      chk (inb i4985 x4941.length) <|
      cond (decide ((rd x4941 i4985) > most4928))
        (
        mortiselaw06_HuffLeast.j5 K (mortiselaw06_HuffLeast.l4 K often4923 most4928 x4941 k) often4923 x4941 sum4984 i4985 true)
        (
        chk (inb i4985 often4923.length) <|
        mortiselaw06_HuffLeast.j5 K (mortiselaw06_HuffLeast.l4 K often4923 most4928 x4941 k) often4923 x4941 sum4984 i4985 (!(((rd x4941 i4985) == (0 : Int)) == ((rd often4923 i4985) == (0 : Int))))))
      (
      mortiselaw06_HuffLeast.j6 K often4923 most4928 sum4984)

def mortiselaw06_HuffLeast.j3 (K : Nat) (often4923 : List Int) (most4928 : Int) (x4941 : (List Int)) (v4981 : Bool) : Res Bool :=
  cond v4981
    (
    .ok false)
    (
    mortiselaw06_HuffLeast.l4 K often4923 most4928 x4941 K (0 : Int) (0 : Int))

def mortiselaw06_HuffLeast.j1 (K : Nat) (often4923 : List Int) (most4928 : Int) (x4941 : (List Int)) (x4943 : Int) (v4971 : Bool) : Res Bool :=
  cond v4971
    (
    .ok false)
    (
    cond (x4943 != (0 : Int))
      (
      cond ((x4943 == (1 : Int)) && ((x4941.length : Int) == (0 : Int)))
        (
        (mortiselaw06_live.m K).bind fun x4976 =>
        mortiselaw06_HuffLeast.j2 K x4976)
        (
        mortiselaw06_HuffLeast.j2 K false))
      (
      cond ((x4941.length : Int) != (often4923.length : Int))
        (
        mortiselaw06_HuffLeast.j3 K often4923 most4928 x4941 true)
        (
        (mortiseref06_Check.m K x4941).bind fun x4980 =>
        mortiselaw06_HuffLeast.j3 K often4923 most4928 x4941 (x4980 != (0 : Int)))))

def mortiselaw06_HuffLeast.m (K : Nat) (often4923 : List Int) (most4928 : Int) : Res Bool :=
  cond ((decide ((often4923.length : Int) > (30 : Int))) || (decide (most4928 > (8 : Int))))
    (
    (mortiselaw06_live.m K).bind fun x4930 =>
    .ok x4930)
    (
    chk (room (([] : List Int).length + often4923.length) 8) <|
    lt (([] : List Int) ++ often4923) fun (zs4938 : (List Int)) =>
    (huff_Lengths.m K zs4938 most4928).bind fun (x4941, x4943) =>
    (mortiseref06_SameInts.m K zs4938 often4923).bind fun x4945 =>
    cond (!x4945)
      (
      mortiselaw06_HuffLeast.j1 K often4923 most4928 x4941 x4943 true)
      (
      (mortiseref06_Often.m K often4923 most4928).bind fun x4970 =>
      mortiselaw06_HuffLeast.j1 K often4923 most4928 x4941 x4943 (!((x4943 == (0 : Int)) == x4970))))

def mortiselaw06_HuffMany.j1 (K : Nat)  (v5410 : Bool) : Res Bool :=
  .ok v5410

def mortiselaw06_HuffMany.j6 (K : Nat) (g5 : Int → Res Bool) (k_5428 : Int) (v5442 : Bool) : Res Bool :=
  cond v5442
    (
    .ok false)
    (
    lt ((w64 (k_5428 + (1 : Int)))) fun (k_5445 : Int) =>
    g5 k_5445)

def mortiselaw06_HuffMany.l5 (K : Nat) (g3 : Int → Res Bool) (often5393 : List Int) (x5401 : (List Int)) (i5417 : Int) : Nat → Int → Res Bool
  | 0, _ => .fail
  | k + 1, k_5428 =>
    cond (decide (k_5428 < (x5401.length : Int)))
      (
      chk (inb k_5428 often5393.length) <|
      chk (inb i5417 often5393.length) <|
      cond (decide ((rd often5393 k_5428) > (rd often5393 i5417)))
        (
        cond (decide ((rd often5393 i5417) > (0 : Int)))
          (
          chk (inb k_5428 x5401.length) <|
          chk (inb i5417 x5401.length) <|
          mortiselaw06_HuffMany.j6 K (mortiselaw06_HuffMany.l5 K g3 often5393 x5401 i5417 k) k_5428 (decide ((rd x5401 k_5428) > (rd x5401 i5417))))
          (
          mortiselaw06_HuffMany.j6 K (mortiselaw06_HuffMany.l5 K g3 often5393 x5401 i5417 k) k_5428 false))
        (
        mortiselaw06_HuffMany.j6 K (mortiselaw06_HuffMany.l5 K g3 often5393 x5401 i5417 k) k_5428 false))
      (
      lt ((w64 (i5417 + (1 : Int)))) fun (i5431 : Int) =>
      g3 i5431)

def mortiselaw06_HuffMany.j4 (K : Nat) (g3 : Int → Res Bool) (often5393 : List Int) (x5401 : (List Int)) (i5417 : Int) (v5425 : Bool) : Res Bool :=
  cond v5425
    (
    .ok false)
    (
    mortiselaw06_HuffMany.l5 K (g3) often5393 x5401 i5417 K (0 : Int))

def mortiselaw06_HuffMany.j7 (K : Nat)  : Res Bool :=
  (mortiselaw06_live.m K).bind fun x5449 =>
  .ok x5449

def mortiselaw06_HuffMany.l3 (K : Nat) (often5393 : List Int) (most5398 : Int) (x5401 : (List Int)) : Nat → Int → Res Bool
  | 0, _ => .fail
  | k + 1, i5417 =>
    cond (decide (i5417 < (x5401.length : Int)))
      (
      chk (inb i5417 x5401.length) <|
      cond (decide ((rd x5401 i5417) > most5398))
        (
        mortiselaw06_HuffMany.j4 K (mortiselaw06_HuffMany.l3 K often5393 most5398 x5401 k) often5393 x5401 i5417 true)
        (
        chk (inb i5417 often5393.length) <|
        mortiselaw06_HuffMany.j4 K (mortiselaw06_HuffMany.l3 K often5393 most5398 x5401 k) often5393 x5401 i5417 (!(((rd x5401 i5417) == (0 : Int)) == ((rd often5393 i5417) == (0 : Int))))))
      (
      mortiselaw06_HuffMany.j7 K)

def mortiselaw06_HuffMany.j2 (K : Nat) (often5393 : List Int) (most5398 : Int) (x5401 : (List Int)) (v5414 : Bool) : Res Bool :=
  cond v5414
    (
    .ok false)
    (
    mortiselaw06_HuffMany.l3 K often5393 most5398 x5401 K (0 : Int))

def mortiselaw06_HuffMany.m (K : Nat) (often5393 : List Int) (most5398 : Int) : Res Bool :=
  (huff_Lengths.m K often5393 most5398).bind fun (x5401, x5403) =>
  (mortiseref06_Often.m K often5393 most5398).bind fun x5405 =>
  cond (!((x5403 == (0 : Int)) == x5405))
    (
    .ok false)
    (
    cond (x5403 != (0 : Int))
      (
      cond ((x5403 == (1 : Int)) && ((x5401.length : Int) == (0 : Int)))
        (
        (mortiselaw06_live.m K).bind fun x5409 =>
        mortiselaw06_HuffMany.j1 K x5409)
        (
        mortiselaw06_HuffMany.j1 K false))
      (
      cond ((x5401.length : Int) != (often5393.length : Int))
        (
        mortiselaw06_HuffMany.j2 K often5393 most5398 x5401 true)
        (
        (huff_Check.m K x5401).bind fun x5413 =>
        mortiselaw06_HuffMany.j2 K often5393 most5398 x5401 (x5413 != (0 : Int)))))

def mortiselaw06_HuffApart.j1 (K : Nat)  (v5465 : Bool) : Res Bool :=
  .ok v5465

def mortiselaw06_HuffApart.j4 (K : Nat) (g3 : Int → Res Bool) (k_5471 : Int) (v5488 : Bool) : Res Bool :=
  cond v5488
    (
    .ok false)
    (
    lt ((w64 (k_5471 + (1 : Int)))) fun (k_5491 : Int) =>
    g3 k_5491)

def mortiselaw06_HuffApart.l3 (K : Nat) (g2 : Int → Res Bool) (l_5451 : List Int) (x5458 : (List Int)) (i5468 : Int) : Nat → Int → Res Bool
  | 0, _ => .fail
  | k + 1, k_5471 =>
    cond (decide (k_5471 < (l_5451.length : Int)))
      (
      cond (i5468 != k_5471)
        (
        chk (inb i5468 l_5451.length) <|
        cond (decide ((rd l_5451 i5468) > (0 : Int)))
          (
          chk (inb k_5471 l_5451.length) <|
          cond (decide ((rd l_5451 k_5471) ≥ (rd l_5451 i5468)))
            (
            chk (inb k_5471 x5458.length) <|
            chk (decide (0 ≤ (wr .u64 (w64 ((rd l_5451 k_5471) - (rd l_5451 i5468)))))) <|
            chk (inb i5468 x5458.length) <|
            mortiselaw06_HuffApart.j4 K (mortiselaw06_HuffApart.l3 K g2 l_5451 x5458 i5468 k) k_5471 ((ishr .i64 (rd x5458 k_5471) (wr .u64 (w64 ((rd l_5451 k_5471) - (rd l_5451 i5468))))) == (rd x5458 i5468)))
            (
            mortiselaw06_HuffApart.j4 K (mortiselaw06_HuffApart.l3 K g2 l_5451 x5458 i5468 k) k_5471 false))
          (
          mortiselaw06_HuffApart.j4 K (mortiselaw06_HuffApart.l3 K g2 l_5451 x5458 i5468 k) k_5471 false))
        (
        mortiselaw06_HuffApart.j4 K (mortiselaw06_HuffApart.l3 K g2 l_5451 x5458 i5468 k) k_5471 false))
      (
      lt ((w64 (i5468 + (1 : Int)))) fun (i5474 : Int) =>
      g2 i5474)

def mortiselaw06_HuffApart.j5 (K : Nat)  : Res Bool :=
  (mortiselaw06_live.m K).bind fun x5495 =>
  .ok x5495

def mortiselaw06_HuffApart.l2 (K : Nat) (l_5451 : List Int) (x5458 : (List Int)) : Nat → Int → Res Bool
  | 0, _ => .fail
  | k + 1, i5468 =>
    cond (decide (i5468 < (l_5451.length : Int)))
      (
      mortiselaw06_HuffApart.l3 K (mortiselaw06_HuffApart.l2 K l_5451 x5458 k) l_5451 x5458 i5468 K (0 : Int))
      (
      mortiselaw06_HuffApart.j5 K)

def mortiselaw06_HuffApart.m (K : Nat) (l_5451 : List Int) : Res Bool :=
  (huff_Codes.m K l_5451).bind fun (x5458, x5460) =>
  cond (x5460 != (0 : Int))
    (
    cond ((x5458.length : Int) == (0 : Int))
      (
      (mortiselaw06_live.m K).bind fun x5464 =>
      mortiselaw06_HuffApart.j1 K x5464)
      (
      mortiselaw06_HuffApart.j1 K false))
    (
    cond ((x5458.length : Int) != (l_5451.length : Int))
      (
      .ok false)
      (
      mortiselaw06_HuffApart.l2 K l_5451 x5458 K (0 : Int)))

def bits_Writer_Put.j2 (K : Nat) (g1 : Int → (List Int) → Int → Int → Res (Int × Int × (List Int))) (at_5624 : Int) (v5632 : Int) (n_5633 : Int) (bytes5651 : (List Int)) : Res (Int × Int × (List Int)) :=
  lt ((if n_5633 < (w64 ((8 : Int) - (iand .i64 at_5624 (7 : Int)))) then n_5633 else (w64 ((8 : Int) - (iand .i64 at_5624 (7 : Int)))))) fun (room5657 : Int) =>
  chk (inb (iquo .i64 at_5624 (8 : Int)) bytes5651.length) <|
  chk (decide (0 ≤ room5657)) <|
  chk (decide (0 ≤ (iand .i64 at_5624 (7 : Int)))) <|
  lt (bytes5651.set (Int.toNat (iquo .i64 at_5624 (8 : Int))) (ior .u8 (rd bytes5651 (iquo .i64 at_5624 (8 : Int))) (ishl .u8 (wr .u8 (iand .u32 v5632 (wr .u32 ((ishl .u32 (1 : Int) room5657) - (1 : Int))))) (iand .i64 at_5624 (7 : Int))))) fun (zs5666 : (List Int)) =>
  lt ((ishr .u32 v5632 room5657)) fun (v5669 : Int) =>
  lt ((w64 (n_5633 - room5657))) fun (n_5672 : Int) =>
  g1 (w64 (at_5624 + room5657)) zs5666 v5669 n_5672

def bits_Writer_Put.l1 (K : Nat)  : Nat → Int → (List Int) → Int → Int → Res (Int × Int × (List Int))
  | 0, _, _, _, _ => .fail
  | k + 1, at_5624, bytes5627, v5632, n_5633 =>
    cond (decide (n_5633 > (0 : Int)))
      (
      cond ((iand .i64 at_5624 (7 : Int)) == (0 : Int))
        (
        chk (room (bytes5627.length + ([(0 : Int)] : List Int).length) 1) <|
        lt (bytes5627 ++ ([(0 : Int)] : List Int)) fun (zs5646 : (List Int)) =>
        bits_Writer_Put.j2 K (bits_Writer_Put.l1 K k) at_5624 v5632 n_5633 zs5646)
        (
        bits_Writer_Put.j2 K (bits_Writer_Put.l1 K k) at_5624 v5632 n_5633 bytes5627))
      (
      .ok ((0 : Int), at_5624, bytes5627))

def bits_Writer_Put.m (K : Nat) (w_5559 : T_bits_Writer) (v5567 : Int) (n_5568 : Int) : Res (Int × Int × (List Int)) :=
  chk (imp false ((decide (n_5568 < (0 : Int))) || (decide (n_5568 > (32 : Int)))) (decide (0 ≤ n_5568))) <|
  cond (((decide (n_5568 < (0 : Int))) || (decide (n_5568 > (32 : Int)))) || (decide ((ishr .u64 (wr .u64 v5567) n_5568) > (0 : Int))))
    (
    .ok ((1 : Int), w_5559.place_.at_, w_5559.bytes_))
    (
    bits_Writer_Put.l1 K K w_5559.place_.at_ w_5559.bytes_ v5567 n_5568)

def bits_Writer_String.m (K : Nat) (w_5868 : T_bits_Writer) : Res (List UInt8) :=
  lt ((w_5868.bytes_.map tob)) fun (v5876 : List UInt8) =>
  .ok v5876

def bits_Writer_Len.m (K : Nat) (w_5920 : T_bits_Writer) : Res Unit :=
  .ok ()

def mortiselaw06_HuffBack.j1 (K : Nat)  (v5521 : Bool) : Res Bool :=
  .ok v5521

def mortiselaw06_HuffBack.j4 (K : Nat) (g2 : Int → (List Int) → (List Int) → Int → Res Bool) (kept5770 : (List Int)) (i5773 : Int) (k_5777 : Int) (at_5833 : Int) (bytes5836 : (List Int)) : Res Bool :=
  chk (room (kept5770.length + ([k_5777] : List Int).length) 8) <|
  lt (kept5770 ++ ([k_5777] : List Int)) fun (zs5851 : (List Int)) =>
  lt ((w64 (i5773 + (1 : Int)))) fun (i5852 : Int) =>
  g2 at_5833 bytes5836 zs5851 i5852

def mortiselaw06_HuffBack.l3 (K : Nat) (g2 : Int → (List Int) → (List Int) → Int → Res Bool) (x5509 : (List Int)) (kept5770 : (List Int)) (i5773 : Int) (k_5777 : Int) : Nat → Int → (List Int) → Int → Res Bool
  | 0, _, _, _ => .fail
  | k + 1, at_5809, bytes5812, b_5817 =>
    cond (decide (b_5817 ≥ (0 : Int)))
      (
      chk (inb k_5777 x5509.length) <|
      chk (decide (0 ≤ (wr .u64 b_5817))) <|
      (bits_Writer_Put.m K (T_bits_Writer.mk (T_bits_place.mk at_5809) bytes5812) (irem (ishr .u32 (wr .u32 (rd x5509 k_5777)) (wr .u64 b_5817)) (2 : Int)) (1 : Int)).bind fun (x5822, at_5823, bytes5826) =>
      lt ((w64 (b_5817 - (1 : Int)))) fun (b_5831 : Int) =>
      mortiselaw06_HuffBack.l3 K g2 x5509 kept5770 i5773 k_5777 k at_5823 bytes5826 b_5831)
      (
      mortiselaw06_HuffBack.j4 K (g2) kept5770 i5773 k_5777 at_5809 bytes5812)

def mortiselaw06_HuffBack.j8 (K : Nat)  (v5930 : Bool) : Res Bool :=
  .ok v5930

def mortiselaw06_HuffBack.j7 (K : Nat) (at_5854 : Int) (bytes5857 : (List Int)) (x5878 : List UInt8) (at_5916 : Int) : Res Bool :=
  (bits_Reader_At.m K (T_bits_Reader.mk (T_bits_place.mk at_5916) x5878)).bind fun _ =>
  (bits_Writer_Len.m K (T_bits_Writer.mk (T_bits_place.mk at_5854) bytes5857)).bind fun _ =>
  cond (at_5916 == at_5854)
    (
    (mortiselaw06_live.m K).bind fun x5929 =>
    mortiselaw06_HuffBack.j8 K x5929)
    (
    mortiselaw06_HuffBack.j8 K false)

def mortiselaw06_HuffBack.l6 (K : Nat) (x5524 : T_huff_Table) (at_5854 : Int) (bytes5857 : (List Int)) (kept5864 : (List Int)) (x5878 : List UInt8) : Nat → Int → Int → Res Bool
  | 0, _, _ => .fail
  | k + 1, at_5899, i5902 =>
    cond (decide (i5902 < (kept5864.length : Int)))
      (
      (huff_Table_Next.m K x5524 (T_bits_Reader.mk (T_bits_place.mk at_5899) x5878)).bind fun (x5905, x5906, at_5907) =>
      chk (imp false (x5906 != (0 : Int)) (inb i5902 kept5864.length)) <|
      cond ((x5906 != (0 : Int)) || (x5905 != (rd kept5864 i5902)))
        (
        .ok false)
        (
        lt ((w64 (i5902 + (1 : Int)))) fun (i5914 : Int) =>
        mortiselaw06_HuffBack.l6 K x5524 at_5854 bytes5857 kept5864 x5878 k at_5907 i5914))
      (
      mortiselaw06_HuffBack.j7 K at_5854 bytes5857 x5878 at_5899)

def mortiselaw06_HuffBack.j5 (K : Nat) (x5524 : T_huff_Table) (at_5854 : Int) (bytes5857 : (List Int)) (kept5864 : (List Int)) : Res Bool :=
  (bits_Writer_String.m K (T_bits_Writer.mk (T_bits_place.mk at_5854) bytes5857)).bind fun x5878 =>
  (bits_New.m K x5878).bind fun _ =>
  mortiselaw06_HuffBack.l6 K x5524 at_5854 bytes5857 kept5864 x5878 K (0 : Int) (0 : Int)

def mortiselaw06_HuffBack.l2 (K : Nat) (l_5497 : List Int) (symbols5502 : List Int) (x5509 : (List Int)) (x5524 : T_huff_Table) : Nat → Int → (List Int) → (List Int) → Int → Res Bool
  | 0, _, _, _, _ => .fail
  | k + 1, at_5760, bytes5763, kept5770, i5773 =>
    cond ((decide (i5773 < (symbols5502.length : Int))) && (decide (i5773 < (200 : Int))))
      (
      chk (inb i5773 symbols5502.length) <|
      lt ((rd symbols5502 i5773)) fun (k_5777 : Int) =>
      chk (imp false ((decide (k_5777 < (0 : Int))) || (decide (k_5777 ≥ (l_5497.length : Int)))) (inb k_5777 l_5497.length)) <|
      cond (((decide (k_5777 < (0 : Int))) || (decide (k_5777 ≥ (l_5497.length : Int)))) || ((rd l_5497 k_5777) == (0 : Int)))
        (
        lt ((w64 (i5773 + (1 : Int)))) fun (i5782 : Int) =>
        mortiselaw06_HuffBack.l2 K l_5497 symbols5502 x5509 x5524 k at_5760 bytes5763 kept5770 i5782)
        (
        chk (inb k_5777 l_5497.length) <|
        lt ((w64 ((rd l_5497 k_5777) - (1 : Int)))) fun (b_5784 : Int) =>
        mortiselaw06_HuffBack.l3 K (mortiselaw06_HuffBack.l2 K l_5497 symbols5502 x5509 x5524 k) x5509 kept5770 i5773 k_5777 K at_5760 bytes5763 b_5784))
      (
      mortiselaw06_HuffBack.j5 K x5524 at_5760 bytes5763 kept5770)

def mortiselaw06_HuffBack.m (K : Nat) (l_5497 : List Int) (symbols5502 : List Int) : Res Bool :=
  (huff_Codes.m K l_5497).bind fun (x5509, x5511) =>
  (huff_New.m K l_5497).bind fun (x5514, x5516) =>
  cond ((x5511 != (0 : Int)) || (x5516 != (0 : Int)))
    (
    cond (x5511 == x5516)
      (
      (mortiselaw06_live.m K).bind fun x5520 =>
      mortiselaw06_HuffBack.j1 K x5520)
      (
      mortiselaw06_HuffBack.j1 K false))
    (
    cond (((x5509.length : Int) != (l_5497.length : Int)) || x5514.isNone)
      (
      .ok false)
      (
      unw x5514 fun x5524 =>
      mortiselaw06_HuffBack.l2 K l_5497 symbols5502 x5509 x5524 K (0 : Int) ([] : List Int) ([] : List Int) (0 : Int)))
end Go.Mo
